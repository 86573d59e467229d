/-
  Part 5 of the texts that prove this claim, merged.
-/
import Derived.Test.YtppeeogffbpcbaaGreatElBP4
set_option linter.all false
set_option maxRecDepth 40000
set_option maxHeartbeats 16000000
namespace Go.Proofs.YtppeeogffbpcbaaGreat
open Go Go.RowKit Cp
theorem eqv129 {d : Nat} {w : World} {x0 y0 : Int} {x1 y1 : Int} : (Op.equalIn (d + 2) 129 (.agg #[.int .i64 x0, .int .i64 x1]) (.agg #[.int .i64 y0, .int .i64 y1])).run Tryz.prog w = .ok (decide (x0 = y0 ∧ x1 = y1)) w := by
  have h := eqS (w := w) (d := d + 1) (xs := #[.int .i64 x0, .int .i64 x1]) (ys := #[.int .i64 y0, .int .i64 y1]) Tryz.underlying129 (by kernel_rfl) (eqF_cons (by decide) (part_leaf one3 rfl) (part_leaf one3 rfl) (eq_intL (d := d + 0) Tryz.underlying3) (eqF_cons (by decide) (part_leaf one3 rfl) (part_leaf one3 rfl) (eq_intL (d := d + 0) Tryz.underlying3) (eqF_nil)))
  refine h.trans (congrArg (fun b => Result.ok b w) ?_)
  rw [Bool.eq_iff_iff]; simp [and_assoc]
theorem ok_eq129 {E : Env} {I : Asn} {o : Oper} {u : TypeId} {x y : Operand} {x0 y0 : Int} {x1 y1 : Int} (ho : o.op = .binOp .eql 129 x y u) (hx : VL E x (agg [is (.int .i64 x0), is (.int .i64 x1)])) (hy : VL E y (agg [is (.int .i64 y0), is (.int .i64 y1)])) : OpOK Tryz.prog I o E (bool (decide (x0 = y0 ∧ x1 = y1))) :=
  ok_eqagg [.int .i64 x0, .int .i64 x1] [.int .i64 y0, .int .i64 y1] ho hx hy (by kernel_rfl) (fun w => by rw [show Op.equal 129 _ _ = Op.equalIn (9998 + 2) 129 _ _ from rfl]; exact eqv129)
theorem ok_ne129 {E : Env} {I : Asn} {o : Oper} {u : TypeId} {x y : Operand} {x0 y0 : Int} {x1 y1 : Int} (ho : o.op = .binOp .neq 129 x y u) (hx : VL E x (agg [is (.int .i64 x0), is (.int .i64 x1)])) (hy : VL E y (agg [is (.int .i64 y0), is (.int .i64 y1)])) : OpOK Tryz.prog I o E (bool (!decide (x0 = y0 ∧ x1 = y1))) :=
  ok_neagg [.int .i64 x0, .int .i64 x1] [.int .i64 y0, .int .i64 y1] ho hx hy (by kernel_rfl) (fun w => by rw [show Op.equal 129 _ _ = Op.equalIn (9998 + 2) 129 _ _ from rfl]; exact eqv129)

deriving instance DecidableEq for Crt
deriving instance DecidableEq for Idn
deriving instance DecidableEq for Ept
deriving instance DecidableEq for Chg
theorem sameY {α : Type} {a b : List α} {k : Nat} {x y : α} (ha : a[k]? = some x) (hb : b[k]? = some y) (h : a.take k = b.take k) (e : x = y) : a.take (k + 1) = b.take (k + 1) := by
  rw [List.take_add_one, List.take_add_one, ha, hb, h, e]
theorem sameN {α : Type} {a b : List α} {k : Nat} {x y : α} (ha : a[k]? = some x) (hb : b[k]? = some y) (e : ¬ x = y) : ¬ a = b := by
  rintro rfl; rw [ha] at hb; cases hb; exact e rfl
theorem sameA {α : Type} {a b : List α} (hl : a.length = b.length) (h : a.take a.length = b.take a.length) : a = b := by
  rw [List.take_length, hl, List.take_length] at h; exact h

theorem w_R24SameC {a b : Crt} (hn : a.names.length ≤ 8796093022208) : Fun Tryz.prog 130 [agg (rowCr a), agg (rowCr b)] (bool (decide (a = b))) := by
 refine fo Tryz.func130 rfl ⟨rfl, rfl⟩ fun M0 w0 => ?_
 refine ac ?_
 refine ac ?_
 refine Ch.cs 11 rfl ?_ ?_ <;> intro h1 q1
 refine ac ?_
 refine wk3 2 3 89 rfl ?_
 refine ac ?_
 refine ac ?_
 · refine bool_eq ?_; symm; rw [decide_eq_false_iff_not]; rintro rfl; simp_all
 refine ac ?_
 refine Ch.cs 18 rfl ?_ ?_ <;> intro h2 q2
 refine ac ?_
 refine wk3 2 3 89 rfl ?_
 refine ac ?_
 refine ac ?_
 · refine bool_eq ?_; symm; rw [decide_eq_false_iff_not]; rintro rfl; simp_all
 refine ac ?_
 refine Ch.cs 25 rfl ?_ ?_ <;> intro h3 q3
 refine ac ?_
 refine wk3 2 3 89 rfl ?_
 refine ac ?_
 refine ac ?_
 · refine bool_eq ?_; symm; rw [decide_eq_false_iff_not]; rintro rfl; simp_all
 refine ac ?_
 refine cy h3 rfl (ok_ne24 rfl (vl rfl) (vl rfl)) ?_
 refine ac ?_
 refine Ch.cs 32 rfl ?_ ?_ <;> intro h4 q4
 refine ac ?_
 refine wk3 2 3 89 rfl ?_
 refine ac ?_
 refine ac ?_
 · refine bool_eq ?_; symm; rw [decide_eq_false_iff_not]; rintro rfl; simp_all
 refine ac ?_
 refine Ch.cs 39 rfl ?_ ?_ <;> intro h5 q5
 refine ac ?_
 refine wk3 2 3 89 rfl ?_
 refine ac ?_
 refine ac ?_
 · refine bool_eq ?_; symm; rw [decide_eq_false_iff_not]; rintro rfl; simp_all
 refine ac ?_
 refine cy h5 rfl (ok_ne24 rfl (vl rfl) (vl rfl)) ?_
 refine ac ?_
 refine Ch.cs 46 rfl ?_ ?_ <;> intro h6 q6
 refine ac ?_
 refine wk3 2 3 89 rfl ?_
 refine ac ?_
 refine ac ?_
 · refine bool_eq ?_; symm; rw [decide_eq_false_iff_not]; rintro rfl; simp_all
 refine ac ?_
 refine Ch.cs 53 rfl ?_ ?_ <;> intro h7 q7
 refine ac ?_
 refine wk3 2 3 89 rfl ?_
 refine ac ?_
 refine ac ?_
 · refine bool_eq ?_; symm; rw [decide_eq_false_iff_not]; rintro rfl; simp_all
 refine ac ?_
 refine Ch.cs 60 rfl ?_ ?_ <;> intro h8 q8
 refine ac ?_
 refine wk3 2 3 89 rfl ?_
 refine ac ?_
 refine ac ?_
 · refine bool_eq ?_; symm; rw [decide_eq_false_iff_not]; rintro rfl; simp_all
 refine ac ?_
 refine cy h8 rfl (ok_neb rfl Tryz.underlying4 (vl rfl) (vl rfl)) ?_
 refine ac ?_
 refine Ch.cs 67 rfl ?_ ?_ <;> intro h9 q9
 refine ac ?_
 refine wk3 2 3 89 rfl ?_
 refine ac ?_
 refine ac ?_
 · refine bool_eq ?_; symm; rw [decide_eq_false_iff_not]; rintro rfl; simp_all
 refine ac ?_
 refine Ch.cs 74 rfl ?_ ?_ <;> intro h10 q10
 refine ac ?_
 refine wk3 2 3 89 rfl ?_
 refine ac ?_
 refine ac ?_
 · refine bool_eq ?_; symm; rw [decide_eq_false_iff_not]; rintro rfl; simp_all
 refine ac ?_
 refine cy h10 rfl (ok_ne129 rfl (vl rfl) (vl rfl)) ?_
 refine ac ?_
 refine Ch.cs 81 rfl ?_ ?_ <;> intro h11 q11
 refine ac ?_
 refine wk3 2 3 89 rfl ?_
 refine ac ?_
 refine ac ?_
 · refine bool_eq ?_; symm; rw [decide_eq_false_iff_not]; rintro rfl; simp_all
 refine ac ?_
 refine wk3 2 3 89 rfl ?_
 refine Tr.cn rfl ?_ ?_ <;> intro h12 q12
 refine ac ?_
 refine ac ?_
 · refine bool_eq ?_; symm; rw [decide_eq_false_iff_not]; rintro rfl; simp_all
 have hll : a.names.length = b.names.length := by simp_all; omega
 refine ac ?_
 refine ac ?_
 refine Tr.block (Tr.loopw [(2, _), (3, _), (92, _)] (kk3 rfl) (fun k : Nat => [(93, int ((k : Nat) : Int))]) (fun k : Nat => k ≤ (a.names).length ∧ (a.names.take k = b.names.take k)) (fun k : Nat => (a.names).length - k) 0 (⟨Nat.zero_le _, rfl⟩) ⟨ke rfl, trivial⟩ ?_)
 rintro k ⟨hle_k, hinv_k⟩
 refine ac ?_
 refine Tr.seq ?_
 refine Tr.cn rfl ?_ ?_ <;> intro h13 q13
 have hk_k : k < (a.names).length := lt_of_dec h13
 obtain ⟨x, hx_k⟩ := at_ hk_k
 obtain ⟨y, hy⟩ := at_ (l := b.names) (k := k) (by omega)
 refine ac ?_
 refine ac ?_
 refine ac ?_
 refine co rfl (ok_indexAddr rfl Tryz.underlying74 sz9 (vl rfl) (vl rfl) (by omega) (row_at hx_k)) ?_
 refine ac ?_
 refine co rfl (ok_indexAddr rfl Tryz.underlying74 sz9 (vl rfl) (vl rfl) (by omega) (row_at hy)) ?_
 refine ac ?_
 refine wk5 2 3 92 93 106 rfl ?_
 refine Tr.cn rfl ?_ ?_ <;> intro h14 q14
 refine ac ?_
 refine ac ?_
 · refine bool_eq ?_; symm; rw [decide_eq_false_iff_not]; rintro rfl; rw [hx_k] at hy; cases hy; simp_all
 refine ac ?_
 refine ac ?_
 exact Fin.fam_same (k + 1) ⟨⟨hk_k, sameY hx_k hy hinv_k (by simp_all)⟩, by omega⟩ ⟨⟨_, rfl, int_succ k⟩, ke rfl, ke rfl, ke rfl, trivial⟩
 have he_k : k = (a.names).length := by have := ge_of_dec h13; omega
 subst he_k
 refine ac ?_
 refine ac ?_
 refine ac ?_
 · refine bool_eq ?_; have hnn := sameA hll hinv_k; clear hinv_k hll; cases a; cases b; simp_all
theorem w_R24SameI {a b : Idn} (hs : a.small) : Fun Tryz.prog 84 [agg (rowId a), agg (rowId b)] (bool (decide (a = b))) := by
 refine fo Tryz.func84 rfl ⟨rfl, rfl⟩ fun M0 w0 => ?_
 have hsc := hs.chain
 refine ac ?_
 refine ac ?_
 refine co rfl (ok_ne24 rfl (vl rfl) (vl rfl)) (cm rfl ?_)
 refine Ch.cs 11 rfl ?_ ?_ <;> intro h1 q1
 refine ac ?_
 refine wk3 2 3 26 rfl ?_
 refine ac ?_
 refine ac ?_
 · refine bool_eq ?_; symm; rw [decide_eq_false_iff_not]; rintro rfl; simp_all
 refine ac ?_
 refine Ch.cs 18 rfl ?_ ?_ <;> intro h2 q2
 refine ac ?_
 refine wk3 2 3 26 rfl ?_
 refine ac ?_
 refine ac ?_
 · refine bool_eq ?_; symm; rw [decide_eq_false_iff_not]; rintro rfl; simp_all
 refine ac ?_
 refine wk3 2 3 26 rfl ?_
 refine Tr.cn rfl ?_ ?_ <;> intro h3 q3
 refine ac ?_
 refine ac ?_
 · refine bool_eq ?_; symm; rw [decide_eq_false_iff_not]; rintro rfl; simp_all
 have hll : a.chain.length = b.chain.length := by simp_all; omega
 refine ac ?_
 refine ac ?_
 refine Tr.block (Tr.loopw [(2, _), (3, _), (29, _)] (kk3 rfl) (fun k : Nat => [(30, int ((k : Nat) : Int))]) (fun k : Nat => k ≤ (a.chain).length ∧ (a.chain.take k = b.chain.take k)) (fun k : Nat => (a.chain).length - k) 0 (⟨Nat.zero_le _, rfl⟩) ⟨ke rfl, trivial⟩ ?_)
 rintro k ⟨hle_k, hinv_k⟩
 refine ac ?_
 refine Tr.seq ?_
 refine Tr.cn rfl ?_ ?_ <;> intro h4 q4
 have hk_k : k < (a.chain).length := lt_of_dec h4
 obtain ⟨x, hx_k⟩ := at_ hk_k
 obtain ⟨y, hy⟩ := at_ (l := b.chain) (k := k) (by omega)
 have hxn := hs.names x (List.mem_of_getElem? hx_k)
 refine ac ?_
 refine ac ?_
 refine ac ?_
 refine co rfl (ok_indexAddr rfl Tryz.underlying25 sz131 (vl rfl) (vl rfl) (by omega) (row_at hx_k)) ?_
 refine ac ?_
 refine co rfl (ok_indexAddr rfl Tryz.underlying25 sz131 (vl rfl) (vl rfl) (by omega) (row_at hy)) (co rfl (ok_loadA rfl agg131 sz131 (vl rfl) rfl rfl) (co rfl (kc2 (w_R24SameC hxn) rfl rfl rfl) ?_))
 refine ac ?_
 refine wk5 2 3 29 30 44 rfl ?_
 refine Tr.cn rfl ?_ ?_ <;> intro h5 q5
 refine ac ?_
 refine ac ?_
 · refine bool_eq ?_; symm; rw [decide_eq_false_iff_not]; rintro rfl; rw [hx_k] at hy; cases hy; simp_all
 refine ac ?_
 refine ac ?_
 exact Fin.fam_same (k + 1) ⟨⟨hk_k, sameY hx_k hy hinv_k (by simp_all)⟩, by omega⟩ ⟨⟨_, rfl, int_succ k⟩, ke rfl, ke rfl, ke rfl, trivial⟩
 have he_k : k = (a.chain).length := by have := ge_of_dec h4; omega
 subst he_k
 refine ac ?_
 refine ac ?_
 refine ac ?_
 · refine bool_eq ?_; have hnn := sameA hll hinv_k; clear hinv_k hll hs; cases a; cases b; simp_all
end Go.Proofs.YtppeeogffbpcbaaGreat
namespace Go.Proofs.YtppeeogffbpcbaaGreat
open Go Go.RowKit Cp

theorem kinds12 {k : Int} (hk : 1 ≤ k ∧ k ≤ 12) : k = 1 ∨ k = 2 ∨ k = 3 ∨ k = 4 ∨ k = 5 ∨ k = 6 ∨ k = 7 ∨ k = 8 ∨ k = 9 ∨ k = 10 ∨ k = 11 ∨ k = 12 := by omega
theorem stepR_ne {e : Ept} {c : Chg} {f : Int} (hc : okCh c) (h : stepR e c = .error f) : f ≠ 0 := by
  rcases kinds12 hc.1 with hk | hk | hk | hk | hk | hk | hk | hk | hk | hk | hk | hk
  · rw [stepR_1 hk] at h; (repeat' (split at h)) <;> first | (injection h with h; omega) | (cases h; done)
  · rw [stepR_2 hk] at h; (repeat' (split at h)) <;> first | (injection h with h; omega) | (cases h; done)
  · rw [stepR_3 hk] at h; (repeat' (split at h)) <;> first | (injection h with h; omega) | (cases h; done)
  · rw [stepR_4 hk] at h; (repeat' (split at h)) <;> first | (injection h with h; omega) | (cases h; done)
  · rw [stepR_5 hk] at h; (repeat' (split at h)) <;> first | (injection h with h; omega) | (cases h; done)
  · rw [stepR_6 hk] at h; (repeat' (split at h)) <;> first | (injection h with h; omega) | (cases h; done)
  · rw [stepR_7 hk] at h; (repeat' (split at h)) <;> first | (injection h with h; omega) | (cases h; done)
  · rw [stepR_8 hk] at h; (repeat' (split at h)) <;> first | (injection h with h; omega) | (cases h; done)
  · rw [stepR_9 hk] at h; (repeat' (split at h)) <;> first | (injection h with h; omega) | (cases h; done)
  · rw [stepR_10 hk] at h; (repeat' (split at h)) <;> first | (injection h with h; omega) | (cases h; done)
  · rw [stepR_11 hk] at h; (repeat' (split at h)) <;> first | (injection h with h; omega) | (cases h; done)
  · rw [stepR_12 hk] at h; (repeat' (split at h)) <;> first | (injection h with h; omega) | (cases h; done)
theorem doneR_inv {e : Ept} {c : Chg} {x : Ept} {b : Chg} (h : doneR e c = (x, b, 0)) : EptOk e ∧ okCh c ∧ stepR e c = .ok (x, b) ∧ EptOk x := by
  unfold doneR at h
  split at h
  · cases h
  next h1 =>
  split at h
  · cases h
  next h2 =>
  have h1 : eptB e = true := by cases hh : eptB e with
    | true => rfl
    | false => exact absurd hh h1
  have h2 : okCh c := Classical.not_not.1 h2
  cases hs : stepR e c with
  | error f =>
    rw [hs] at h
    simp only [Prod.mk.injEq] at h
    exact absurd h.2.2 (stepR_ne h2 hs)
  | ok r =>
    obtain ⟨x', b'⟩ := r
    rw [hs] at h
    simp only at h
    split at h
    next h3 => simp only [Prod.mk.injEq, and_true] at h; obtain ⟨rfl, rfl⟩ := h; exact ⟨eptB_iff.1 h1, h2, rfl, eptB_iff.1 h3⟩
    · cases h
section
variable {α : Type} {p : α → Bool} {l : List α} {a : α} {i : Nat}
theorem idx_none' (h : l.any p = false) : idx p l < 0 := by
  unfold idx
  cases hf : l.findIdx? p with
  | none => show (-1 : Int) < 0; omega
  | some j =>
    rw [List.findIdx?_eq_some_iff_getElem] at hf
    obtain ⟨h1, h2, _⟩ := hf
    rw [List.any_eq_false] at h
    exact absurd h2 (h _ (List.getElem_mem h1))
theorem idx_lt0 (h : idx p l < 0) : l.any p = false := by
  rw [List.any_eq_false]
  intro x hx hp
  unfold idx at h
  cases hf : l.findIdx? p with
  | none => rw [List.findIdx?_eq_none_iff] at hf; rw [hf x hx] at hp; cases hp
  | some j => rw [hf] at h; simp at h; omega
theorem idx_at (hi : l[i]? = some a) (hp : p a = true) (hno : ∀ (j : Nat) y, j < i → l[j]? = some y → p y = false) : idx p l = ((i : Nat) : Int) := by
  unfold idx
  have hlt := lt_of_at hi
  rw [List.getElem?_eq_getElem hlt] at hi; cases hi
  have : l.findIdx? p = some i := by
    rw [List.findIdx?_eq_some_iff_getElem]
    exact ⟨hlt, hp, fun j hj => by rw [hno j _ hj (List.getElem?_eq_getElem (by omega))]; decide⟩
  rw [this]
theorem ins_at (hi : i ≤ l.length) : (l.take i ++ [a] ++ l.drop i)[i]? = some a := by
  rw [List.append_assoc, List.getElem?_append_right (by rw [List.length_take]; omega), List.length_take, show i - min i l.length = 0 by omega]; rfl
theorem ins_lt (hi : i ≤ l.length) {j : Nat} (hj : j < i) : (l.take i ++ [a] ++ l.drop i)[j]? = l[j]? := by
  rw [List.append_assoc, List.getElem?_append_left (by rw [List.length_take]; omega), List.getElem?_take, if_pos hj]
theorem ins_len (hi : i ≤ l.length) : (l.take i ++ [a] ++ l.drop i).length = l.length + 1 := by simp [List.length_take, List.length_drop]; omega
theorem idx_ins (hi : i ≤ l.length) (hp : p a = true) (h : l.any p = false) : idx p (l.take i ++ [a] ++ l.drop i) = ((i : Nat) : Int) := by
  refine idx_at (ins_at hi) hp (fun j y hj hy => ?_)
  rw [ins_lt hi hj] at hy
  rw [List.any_eq_false] at h
  simpa using h y (List.mem_of_getElem? hy)
theorem any_erase (h : ∀ (j : Nat) y, l[j]? = some y → p y = true → j = i) : (l.eraseIdx i).any p = false := by
  rw [List.any_eq_false]
  intro y hy hp
  obtain ⟨j, hj⟩ := List.getElem?_of_mem hy
  rw [List.getElem?_eraseIdx] at hj
  split at hj
  · have := h j y hj hp; omega
  · have := h (j + 1) y hj hp; omega
theorem idx_first {j : Nat} {y : α} (h0 : 0 ≤ idx p l) (hy : l[j]? = some y) (hp : p y = true) : (idx p l).toNat ≤ j := by
  unfold idx at h0 ⊢
  cases hf : l.findIdx? p with
  | none => rw [hf] at h0; simp at h0
  | some k =>
    rw [List.findIdx?_eq_some_iff_getElem] at hf
    obtain ⟨_, _, h3⟩ := hf
    show k ≤ j
    refine Nat.le_of_not_lt fun hlt => ?_
    have := h3 j hlt
    have hlt2 := lt_of_at hy
    rw [List.getElem?_eq_getElem hlt2] at hy; cases hy
    exact this hp
end
theorem suites_one {l : List Int} (h : suitesB l = true) {i j : Nat} {n : Int} (hi : l[i]? = some n) (hj : l[j]? = some n) : i = j := by
  unfold suitesB at h; rw [allI_iff] at h
  have key : ∀ {a b : Nat}, a < b → l[a]? = some n → l[b]? = some n → False := by
    intro a b hab ha hb
    have := h b (lt_of_at hb)
    unfold suiteAt at this
    rw [getD_at hb] at this
    simp only [Bool.and_eq_true, Bool.not_eq_true', List.any_eq_false] at this
    have := this.2 n (List.mem_of_getElem? (show (l.take b)[a]? = some n by rw [List.getElem?_take, if_pos hab]; exact ha))
    simp at this
  rcases Nat.lt_trichotomy i j with h1 | h1 | h1
  · exact (key h1 hi hj).elim
  · exact h1
  · exact (key h1 hj hi).elim
theorem posI_ins {l : List Int} {n : Int} (h : AscI l) : posI (insX l n) n = posI l n ∧ hasX (insX l n) n = true := by
  have h0 := posI_le l n
  have h1 : posI (insX l n) n = posI l n := by
    refine posI_eq (by rw [ins_len h0]; omega) (fun j y hj hy => ?_) (fun y hy => ?_)
    · rw [ins_lt h0 hj] at hy; exact posI_lt hj hy
    · rw [ins_at h0] at hy; cases hy; omega
  refine ⟨h1, ?_⟩
  unfold hasX; rw [h1, ins_at h0]; simp
theorem hasX_hit {l : List Int} {n : Int} (h : hasX l n = true) : l[posI l n]? = some n := by
  unfold hasX at h
  cases hh : l[posI l n]? with
  | none => rw [hh] at h; cases h
  | some y => rw [hh] at h; simp at h; rw [h]
theorem posI_del {l : List Int} {n : Int} (hs : AscI l) (h : hasX l n = true) : posI (l.eraseIdx (posI l n)) n = posI l n ∧ hasX (l.eraseIdx (posI l n)) n = false := by
  have hh := hasX_hit h
  have hlt := lt_of_at hh
  have hnext : ∀ y, (l.eraseIdx (posI l n))[posI l n]? = some y → n < y := by
    intro y hy
    rw [List.getElem?_eraseIdx, if_neg (by omega)] at hy
    exact ascI_lt hs (Nat.lt_succ_self _) hh hy
  have h1 : posI (l.eraseIdx (posI l n)) n = posI l n := by
    refine posI_eq (by rw [List.length_eraseIdx, if_pos hlt]; omega) (fun j y hj hy => ?_) (fun y hy => by have := hnext y hy; omega)
    rw [List.getElem?_eraseIdx, if_pos hj] at hy; exact posI_lt hj hy
  refine ⟨h1, ?_⟩
  unfold hasX; rw [h1]
  cases hh2 : (l.eraseIdx (posI l n))[posI l n]? with
  | none => rfl
  | some y => have := hnext y hh2; simp; omega
theorem bit_back {n : Int} {f : Bool} (hn : 0 ≤ n ∧ n ≤ 1) (h : ¬ bitI f = n) : (0 ≤ bitI f ∧ bitI f ≤ 1) ∧ ¬ bitI (n == 1) = bitI f ∧ (bitI f == 1) = f ∧ bitI (n == 1) = n := by
  have : n = 0 ∨ n = 1 := by omega
  rcases this with rfl | rfl <;> cases f <;> simp_all [bitI]
end Go.Proofs.YtppeeogffbpcbaaGreat
namespace Go.Proofs.YtppeeogffbpcbaaGreat
open Go Go.RowKit Cp

abbrev u8R : List Pr := [anyK .u8]
abbrev bts (m : Nat) : Pr := slice 1 (List.replicate m u8R)
abbrev bytesE (B : Nat) : Pr := Cp.ex fun m : Nat => fact (m ≤ B) (bts m)
abbrev anyB : Pr := Cp.ex fun b : Bool => bool b
abbrev rowQ (q : Pr) : List Pr := [anyK .i64, bytesE 1000, anyB, q]
abbrev elemsE (row : List Pr) : Pr := Cp.ex fun m : Nat => fact (m ≤ 20) (slice 4 (List.replicate m row))
abbrev depthE (D : Nat) : Pr := Cp.ex fun d : Int => fact (0 ≤ d ∧ d ≤ (D : Nat)) (int d)
theorem rep_at {r : List Pr} {m k : Nat} (h : k < m) : (List.replicate m r)[((k : Nat) : Int).toNat]? = some r := by rw [Int.toNat_natCast, List.getElem?_replicate, if_pos h]
theorem rep_one {r : List Pr} {m : Nat} : List.replicate m r ++ [r] = List.replicate (m + 1) r := by rw [List.replicate_succ']
theorem rep_add {r : List Pr} {m k : Nat} : List.replicate m r ++ List.replicate k r = List.replicate (m + k) r := by rw [List.replicate_append_replicate]
theorem LeL.refl : ∀ l : List Pr, LeL l l
  | [] => trivial
  | _ :: l => ⟨Pr.le_refl _, LeL.refl l⟩
/-- Rows that read less exactly. -/
theorem slice_le {sz : Nat} {rows rows' : List (List Pr)} (hl : rows.length = rows'.length) (h : ∀ (i : Nat) r r', rows[i]? = some r → rows'[i]? = some r' → r.length = r'.length ∧ ∀ (j : Nat) p p', r[j]? = some p → r'[j]? = some p' → Pr.le p p') : Pr.le (slice sz rows) (slice sz rows') := by
  rintro M w v ⟨a, cap, h1, h2, h3, h4, h5⟩
  refine ⟨a, cap, by rw [← hl]; exact h1, by rw [← hl]; exact h2, h3, h4, fun i row hr => ?_⟩
  have hi : i < rows.length := by rw [hl]; exact lt_of_at hr
  have hr0 := List.getElem?_eq_getElem hi
  obtain ⟨g1, g2⟩ := h i _ _ hr0 hr
  obtain ⟨k1, ad, k2, k3⟩ := h5 i _ hr0
  refine ⟨by rw [← g1]; exact k1, ad, k2, fun j p' hp' => ?_⟩
  have hj : j < rows[i].length := by rw [g1]; exact lt_of_at hp'
  have hp := List.getElem?_eq_getElem hj
  obtain ⟨u, c1, c2, c3, c4⟩ := k3 j _ hp
  exact ⟨u, c1, c2, c3, g2 j _ _ hp hp' _ _ _ c4⟩
theorem slice_rep {sz : Nat} {rows : List (List Pr)} {r : List Pr} (h : ∀ q ∈ rows, q.length = r.length ∧ ∀ (j : Nat) p p', q[j]? = some p → r[j]? = some p' → Pr.le p p') : Pr.le (slice sz rows) (slice sz (List.replicate rows.length r)) :=
  slice_le (by simp) fun i q q' hq hq' => by
    rw [List.getElem?_replicate, if_pos (lt_of_at hq)] at hq'
    cases hq'
    exact h q (List.mem_of_getElem? hq)
theorem bts_of {β : Type} {l : List β} {f : β → Int} : Pr.le (slice 1 (l.map fun x => [is (.int .u8 (f x))])) (bts l.length) := by
  have := slice_rep (sz := 1) (rows := l.map fun x => [is (.int .u8 (f x))]) (r := u8R) (by
    intro q hq
    obtain ⟨x, _, rfl⟩ := List.mem_map.1 hq
    refine ⟨rfl, fun j p p' hp hp' => ?_⟩
    cases j with
    | zero => simp at hp hp'; subst hp; subst hp'; exact is_anyK _ _
    | succ j => simp at hp)
  rwa [List.length_map] at this
theorem bytesE_in {B m : Nat} {p : Pr} (h : m ≤ B) (hp : Pr.le p (bts m)) : Pr.le p (bytesE B) := ex_in m (fact_in h hp)
/-- What an element is, cell by cell. -/
theorem Fun.rowQ {P : Program} {f : FuncId} {row : List Pr} {res : Pr} (h : ∀ (t : Int) (b : Nat) (n : Bool) (m : Nat), b ≤ 1000 → m ≤ 20 → Fun P f [agg [int t, bts b, bool n, slice 4 (List.replicate m row)]] res) : Fun P f [agg (rowQ (elemsE row))] res := by
  refine ⟨(h 0 0 false 0 (by omega) (by omega)).1, fun M w vs hb hv => ?_⟩
  match vs, hv with
  | [u0], hv1 =>
    obtain ⟨⟨cs, rfl, ho, hcs⟩, _⟩ := hv1
    match cs, hcs with
    | [c0, c1, c2, c3], hc =>
      obtain ⟨⟨t, h0⟩, ⟨b, hb1, h1⟩, ⟨n, h2⟩, ⟨m, hm1, h3⟩, _⟩ := hc
      exact (h t b n m hb1 hm1).2 M w _ hb ⟨⟨_, rfl, ho, h0, h1, h2, h3, trivial⟩, trivial⟩
theorem Fun.rowQ0 {P : Program} {f : FuncId} {res : Pr} (h : ∀ (t : Int) (b : Nat) (n : Bool), b ≤ 1000 → Fun P f [agg [int t, bts b, bool n, slice 4 []]] res) : Fun P f [agg [anyK .i64, bytesE 1000, anyB, slice 4 []]] res := by
  refine ⟨(h 0 0 false (by omega)).1, fun M w vs hb hv => ?_⟩
  match vs, hv with
  | [u0], hv1 =>
    obtain ⟨⟨cs, rfl, ho, hcs⟩, _⟩ := hv1
    match cs, hcs with
    | [c0, c1, c2, c3], hc =>
      obtain ⟨⟨t, h0⟩, ⟨b, hb1, h1⟩, ⟨n, h2⟩, h3, _⟩ := hc
      exact (h t b n hb1).2 M w _ hb ⟨⟨_, rfl, ho, h0, h1, h2, h3, trivial⟩, trivial⟩

theorem w_rtag {n : Int}  : Fun Tryz.prog 284 [int n] (bool (decide (1 ≤ n) && decide (n ≤ 255) && (n.tmod 32 != 31))) := by
 refine fo Tryz.func284 rfl ⟨rfl, rfl⟩ fun M0 w0 => ?_
 refine ac ?_
 refine ac ?_
 refine Ch.cs 5 rfl ?_ ?_ <;> intro h1 q1
 refine ac ?_
 refine Ch.cs 9 rfl ?_ ?_ <;> intro h2 q2
 refine cym h2 rfl (cy h2 rfl (ok_rem rfl (vl rfl) (vl rfl) (by omega)) ?_)
 refine ac ?_
 refine ac ?_
 · refine bool_eq ?_; simp_all
 refine ac ?_
 refine ac ?_
 · refine bool_eq ?_; simp_all; omega
 refine ac ?_
 refine ac ?_
 · refine bool_eq ?_; simp_all; omega
theorem w_rformed {t : Int} {b : Nat} {n : Bool} {m : Nat} {q : Pr}  (hb : b ≤ 1000) (hm : m ≤ 20) (ih : m = 0 ∨ Fun Tryz.prog 247 [agg (rowQ q)] (anyB)) : Fun Tryz.prog 247 [agg [int t, bts b, bool n, slice 4 (List.replicate m (rowQ q))]] (anyB) := by
 refine fo Tryz.func247 rfl ⟨rfl, rfl⟩ fun M0 w0 => ?_
 have hlr : (List.replicate m (rowQ q)).length = m := List.length_replicate
 have hlb : (List.replicate b u8R).length = b := List.length_replicate
 refine ac ?_
 refine ac ?_
 refine co rfl (kc1 (w_rtag) rfl rfl) ?_
 refine ac ?_
 refine Ch.cs 8 rfl ?_ ?_ <;> intro h1 q1
 refine ac ?_
 refine wk2 1 38 rfl ?_
 refine ac ?_
 refine ac ?_
 · exact ex_in _ (Pr.le_refl _)
 refine ac ?_
 refine cy h1 rfl (ok_quo rfl (vl rfl) (vl rfl) (by omega)) (cy h1 rfl (ok_rem rfl (vl rfl) (vl rfl) (by omega)) (cy h1 rfl (ki rfl rfl rfl rfl) (cy h1 rfl (ok_neb rfl Tryz.underlying4 (vl rfl) (vl rfl)) ?_)))
 refine ac ?_
 refine Ch.cs 18 rfl ?_ ?_ <;> intro h2 q2
 refine ac ?_
 refine wk2 1 38 rfl ?_
 refine ac ?_
 refine ac ?_
 · exact ex_in _ (Pr.le_refl _)
 refine ac ?_
 refine Ch.cs 21 rfl ?_ ?_ <;> intro h3 q3
 refine ac ?_
 refine cy h3 rfl (ok_len rfl Tryz.underlying198 (vl rfl)) ?_
 refine ac ?_
 refine Ch.cs 28 rfl ?_ ?_ <;> intro h4 q4
 refine ac ?_
 refine wk2 1 38 rfl ?_
 refine ac ?_
 refine ac ?_
 · exact ex_in _ (Pr.le_refl _)
 refine ac ?_
 refine Ch.cs 32 rfl ?_ ?_ <;> intro h5 q5
 refine ac ?_
 refine cy h5 rfl (ok_len rfl Tryz.underlying221 (vl rfl)) ?_
 refine ac ?_
 refine wk2 1 38 rfl ?_
 refine Tr.cn rfl ?_ ?_ <;> intro h6 q6
 refine ac ?_
 refine ac ?_
 · exact ex_in _ (Pr.le_refl _)
 refine ac ?_
 refine ac ?_
 refine Tr.block (Tr.loopw [(1, _)] ⟨ke rfl, trivial⟩ (fun k : Nat => [(3, int ((k : Nat) : Int))]) (fun k : Nat => k ≤ ((List.replicate m (rowQ q)).length)) (fun k : Nat => ((List.replicate m (rowQ q)).length) - k) 0 (Nat.zero_le _) ⟨ke rfl, trivial⟩ ?_)
 rintro k hle_k
 refine ac ?_
 refine co rfl (ok_len rfl Tryz.underlying221 (vl rfl)) ?_
 refine ac ?_
 refine Tr.cn rfl ?_ ?_ <;> intro h7 q7
 have hk_k : k < ((List.replicate m (rowQ q)).length) := lt_of_dec h7
 have hkm : k < m := by simpa using hk_k
 have ih2 := ih.resolve_left (by omega)
 refine ac ?_
 refine ap ?_
 refine tp rfl (ok_indexAddr rfl Tryz.underlying221 sz223 (vl rfl) (vl rfl) (by omega) (rep_at hkm)) (tp rfl (ok_loadA rfl agg223 sz223 (vl rfl) rfl rfl) (tp rfl (kc1 (ih2) rfl rfl) ?_))
 refine TO.ex 51 rfl (fun z51 => ?_)
 refine ap ?_
 refine wk3 1 3 52 rfl ?_
 refine Tr.cn rfl ?_ ?_ <;> intro h8 q8
 refine ac ?_
 refine ac ?_
 · exact ex_in _ (Pr.le_refl _)
 refine ac ?_
 refine ac ?_
 exact Fin.fam_same (k + 1) ⟨hk_k, by omega⟩ ⟨⟨_, rfl, int_succ k⟩, ke rfl, trivial⟩
 have he_k : k = ((List.replicate m (rowQ q)).length) := by have := ge_of_dec h7; omega
 refine ac ?_
 refine ac ?_
 refine ac ?_
 · exact ex_in _ (Pr.le_refl _)
 refine ac ?_
 refine wk2 1 38 rfl ?_
 refine ac ?_
 refine ac ?_
 refine Tr.block (Tr.loopw [(1, _)] ⟨ke rfl, trivial⟩ (fun k : Nat => [(3, int ((k : Nat) : Int))]) (fun k : Nat => k ≤ ((List.replicate m (rowQ q)).length)) (fun k : Nat => ((List.replicate m (rowQ q)).length) - k) 0 (Nat.zero_le _) ⟨ke rfl, trivial⟩ ?_)
 rintro k hle_k
 refine ac ?_
 refine co rfl (ok_len rfl Tryz.underlying221 (vl rfl)) ?_
 refine ac ?_
 refine Tr.cn rfl ?_ ?_ <;> intro h9 q9
 have hk_k : k < ((List.replicate m (rowQ q)).length) := lt_of_dec h9
 have hkm : k < m := by simpa using hk_k
 have ih2 := ih.resolve_left (by omega)
 refine ac ?_
 refine ap ?_
 refine tp rfl (ok_indexAddr rfl Tryz.underlying221 sz223 (vl rfl) (vl rfl) (by omega) (rep_at hkm)) (tp rfl (ok_loadA rfl agg223 sz223 (vl rfl) rfl rfl) (tp rfl (kc1 (ih2) rfl rfl) ?_))
 refine TO.ex 51 rfl (fun z51 => ?_)
 refine ap ?_
 refine wk3 1 3 52 rfl ?_
 refine Tr.cn rfl ?_ ?_ <;> intro h10 q10
 refine ac ?_
 refine ac ?_
 · exact ex_in _ (Pr.le_refl _)
 refine ac ?_
 refine ac ?_
 exact Fin.fam_same (k + 1) ⟨hk_k, by omega⟩ ⟨⟨_, rfl, int_succ k⟩, ke rfl, trivial⟩
 have he_k : k = ((List.replicate m (rowQ q)).length) := by have := ge_of_dec h9; omega
 refine ac ?_
 refine ac ?_
 refine ac ?_
 · exact ex_in _ (Pr.le_refl _)
 refine ac ?_
 refine Ch.cs 32 rfl ?_ ?_ <;> intro h11 q11
 refine ac ?_
 refine cy h11 rfl (ok_len rfl Tryz.underlying221 (vl rfl)) ?_
 refine ac ?_
 refine wk2 1 38 rfl ?_
 refine Tr.cn rfl ?_ ?_ <;> intro h12 q12
 refine ac ?_
 refine ac ?_
 · exact ex_in _ (Pr.le_refl _)
 refine ac ?_
 refine ac ?_
 refine Tr.block (Tr.loopw [(1, _)] ⟨ke rfl, trivial⟩ (fun k : Nat => [(3, int ((k : Nat) : Int))]) (fun k : Nat => k ≤ ((List.replicate m (rowQ q)).length)) (fun k : Nat => ((List.replicate m (rowQ q)).length) - k) 0 (Nat.zero_le _) ⟨ke rfl, trivial⟩ ?_)
 rintro k hle_k
 refine ac ?_
 refine co rfl (ok_len rfl Tryz.underlying221 (vl rfl)) ?_
 refine ac ?_
 refine Tr.cn rfl ?_ ?_ <;> intro h13 q13
 have hk_k : k < ((List.replicate m (rowQ q)).length) := lt_of_dec h13
 have hkm : k < m := by simpa using hk_k
 have ih2 := ih.resolve_left (by omega)
 refine ac ?_
 refine ap ?_
 refine tp rfl (ok_indexAddr rfl Tryz.underlying221 sz223 (vl rfl) (vl rfl) (by omega) (rep_at hkm)) (tp rfl (ok_loadA rfl agg223 sz223 (vl rfl) rfl rfl) (tp rfl (kc1 (ih2) rfl rfl) ?_))
 refine TO.ex 51 rfl (fun z51 => ?_)
 refine ap ?_
 refine wk3 1 3 52 rfl ?_
 refine Tr.cn rfl ?_ ?_ <;> intro h14 q14
 refine ac ?_
 refine ac ?_
 · exact ex_in _ (Pr.le_refl _)
 refine ac ?_
 refine ac ?_
 exact Fin.fam_same (k + 1) ⟨hk_k, by omega⟩ ⟨⟨_, rfl, int_succ k⟩, ke rfl, trivial⟩
 have he_k : k = ((List.replicate m (rowQ q)).length) := by have := ge_of_dec h13; omega
 refine ac ?_
 refine ac ?_
 refine ac ?_
 · exact ex_in _ (Pr.le_refl _)
 refine ac ?_
 refine wk2 1 38 rfl ?_
 refine ac ?_
 refine ac ?_
 refine Tr.block (Tr.loopw [(1, _)] ⟨ke rfl, trivial⟩ (fun k : Nat => [(3, int ((k : Nat) : Int))]) (fun k : Nat => k ≤ ((List.replicate m (rowQ q)).length)) (fun k : Nat => ((List.replicate m (rowQ q)).length) - k) 0 (Nat.zero_le _) ⟨ke rfl, trivial⟩ ?_)
 rintro k hle_k
 refine ac ?_
 refine co rfl (ok_len rfl Tryz.underlying221 (vl rfl)) ?_
 refine ac ?_
 refine Tr.cn rfl ?_ ?_ <;> intro h15 q15
 have hk_k : k < ((List.replicate m (rowQ q)).length) := lt_of_dec h15
 have hkm : k < m := by simpa using hk_k
 have ih2 := ih.resolve_left (by omega)
 refine ac ?_
 refine ap ?_
 refine tp rfl (ok_indexAddr rfl Tryz.underlying221 sz223 (vl rfl) (vl rfl) (by omega) (rep_at hkm)) (tp rfl (ok_loadA rfl agg223 sz223 (vl rfl) rfl rfl) (tp rfl (kc1 (ih2) rfl rfl) ?_))
 refine TO.ex 51 rfl (fun z51 => ?_)
 refine ap ?_
 refine wk3 1 3 52 rfl ?_
 refine Tr.cn rfl ?_ ?_ <;> intro h16 q16
 refine ac ?_
 refine ac ?_
 · exact ex_in _ (Pr.le_refl _)
 refine ac ?_
 refine ac ?_
 exact Fin.fam_same (k + 1) ⟨hk_k, by omega⟩ ⟨⟨_, rfl, int_succ k⟩, ke rfl, trivial⟩
 have he_k : k = ((List.replicate m (rowQ q)).length) := by have := ge_of_dec h15; omega
 refine ac ?_
 refine ac ?_
 refine ac ?_
 · exact ex_in _ (Pr.le_refl _)
theorem w_rdepth {t : Int} {b : Nat} {n : Bool} {m : Nat} {q : Pr} {D : Nat}  (hb : b ≤ 1000) (hm : m ≤ 20) (hD : D ≤ 1000) (ih : m = 0 ∨ Fun Tryz.prog 248 [agg (rowQ q)] (depthE D)) : Fun Tryz.prog 248 [agg [int t, bts b, bool n, slice 4 (List.replicate m (rowQ q))]] (depthE (D + 1)) := by
 refine fo Tryz.func248 rfl ⟨rfl, rfl⟩ fun M0 w0 => ?_
 have hlr : (List.replicate m (rowQ q)).length = m := List.length_replicate
 have hlb : (List.replicate b u8R).length = b := List.length_replicate
 refine ac ?_
 refine ac ?_
 refine ac ?_
 refine Tr.block (Tr.loopw [(1, _)] ⟨ke rfl, trivial⟩ (fun k : Nat => [(4, int ((k : Nat) : Int)), (3, depthE D)]) (fun k : Nat => k ≤ ((List.replicate m (rowQ q)).length)) (fun k : Nat => ((List.replicate m (rowQ q)).length) - k) 0 (Nat.zero_le _) ⟨ke rfl, ⟨_, rfl, ex_in 0 (fact_in (by omega) (Pr.le_refl _))⟩, trivial⟩ ?_)
 rintro k hle_k
 refine ac ?_
 refine co rfl (ok_len rfl Tryz.underlying221 (vl rfl)) ?_
 refine ac ?_
 refine Tr.cn rfl ?_ ?_ <;> intro h1 q1
 have hk_k : k < ((List.replicate m (rowQ q)).length) := lt_of_dec h1
 have hkm : k < m := by simpa using hk_k
 have ih2 := ih.resolve_left (by omega)
 refine ac ?_
 refine ap ?_
 refine TO.ex 12 rfl (fun z12 => TO.fact 12 rfl fun hz12 => ?_)
 refine ap ?_
 refine tp rfl (ok_indexAddr rfl Tryz.underlying221 sz223 (vl rfl) (vl rfl) (by omega) (rep_at hkm)) (tp rfl (ok_loadA rfl agg223 sz223 (vl rfl) rfl rfl) (tp rfl (kc1 (ih2) rfl rfl) ?_))
 refine TO.ex 18 rfl (fun z18 => TO.fact 18 rfl fun hz18 => ?_)
 refine tp rfl (ok_max rfl (vl rfl) (vl rfl)) ?_
 refine ap ?_
 refine wk3 1 3 4 rfl ?_
 refine ac ?_
 exact Fin.fam_same (k + 1) ⟨hk_k, by omega⟩ ⟨⟨_, rfl, int_succ k⟩, ⟨_, rfl, ex_in _ (fact_in (by omega) (Pr.le_refl _))⟩, ke rfl, trivial⟩
 have he_k : k = ((List.replicate m (rowQ q)).length) := by have := ge_of_dec h1; omega
 refine ac ?_
 refine ap ?_
 refine TO.ex 20 rfl (fun z20 => TO.fact 20 rfl fun hz20 => ?_)
 refine ap ?_
 refine ac ?_
 · exact ex_in _ (fact_in (by omega) (Pr.le_refl _))
/-- How many digits to the base 256. -/
def digC (n : Nat) : Nat := if h : n = 0 then 0 else 1 + digC (n / 256)
termination_by n
decreasing_by omega
theorem digC_zero : digC 0 = 0 := by unfold digC; simp
theorem digC_pos {n : Nat} (h : 0 < n) : digC n = 1 + digC (n / 256) := by conv => lhs; unfold digC; rw [dif_neg (by omega)]
theorem digC_le : ∀ (n : Nat), digC n ≤ n := by
  intro n
  induction n using Nat.strongRecOn with
  | _ n ih =>
    rcases Nat.eq_zero_or_pos n with h | h
    · subst h; rw [digC_zero]; omega
    · rw [digC_pos h]; have := ih (n / 256) (by omega); omega
def lenC (n : Nat) : Nat := if n < 128 then 1 else 1 + digC n
theorem lenC_le (n : Nat) : lenC n ≤ n + 1 := by unfold lenC; have := digC_le n; split <;> omega
theorem bts_one (k : Int) : Pr.le (slice 1 [[is (.int .u8 k)]]) (bts 1) := bts_of (l := [()]) (f := fun _ => k)

theorem w_rlength {n : Nat} (hn : n ≤ 100000000) : Fun Tryz.prog 285 [int ((n : Nat) : Int)] (bts (lenC n)) := by
 refine fo Tryz.func285 rfl ⟨rfl, rfl⟩ fun M0 w0 => ?_
 refine ac ?_
 refine ac ?_
 refine Tr.cn rfl ?_ ?_ <;> intro h1 q1
 refine ac ?_
 refine co rfl (ok_conv rfl Tryz.underlying3 Tryz.underlying5 (vl rfl)) (co rfl (ok_buildSlice (xs := [.tmp 7]) (rows := [u8R]) rfl rfl Tryz.underlying198 sz5 z5 rfl (by decide) ⟨⟨(by exact rfl), VL.le (vl rfl) (Pr.le_trans (is_anyK _ _) (one_cellsP _))⟩, trivial⟩ (by decide)) ?_)
 refine ac ?_
 refine ac ?_
 · refine Pr.le_trans (full_le _ _) (Pr.le_of_eq ?_); unfold lenC; rw [if_pos (by omega)]; rfl
 refine ac ?_
 refine ac ?_
 refine Tr.seq (Tr.block (Tr.addnil 5 1 (Tr.loopD2V1 [] trivial (fun (k : Nat) (acc : Nat) v => [(0, int ((k : Nat) : Int)), (3, andIs v (bts acc))]) (fun (k : Nat) (acc : Nat) v => Hp M0 w0 noS ([appRes 5 1 v])) (fun (k : Nat) (acc : Nat) => digC k + acc = digC n ∧ k ≤ n) (fun (k : Nat) (acc : Nat) => k) (n) (0) (.slice none 0 0) (⟨by omega, by omega⟩) ⟨ke rfl, ⟨_, rfl, own_nil rfl⟩, trivial⟩ (fun _ _ h => h) ?_)))
 rintro k acc v ⟨hk1, hk2⟩
 refine ac ?_
 refine Tr.cn rfl ?_ ?_ <;> intro h2 q2
 have hk0 : 0 < k := by have := Nrm.nrm h2; omega
 have hdg := digC_pos hk0
 have hle := digC_le n
 refine ac ?_
 refine ap ?_
 refine tp rfl (ok_rem rfl (vl rfl) (vl rfl) (by omega)) (tp rfl (ok_conv rfl Tryz.underlying3 Tryz.underlying5 (vl rfl)) (tp rfl (ok_buildSlice (xs := [.tmp 13]) (rows := [u8R]) rfl rfl Tryz.underlying198 sz5 z5 rfl (by decide) ⟨⟨(by exact rfl), VL.le (vl rfl) (Pr.le_trans (is_anyK _ _) (one_cellsP _))⟩, trivial⟩ (by decide)) ?_))
 refine tm rfl (TO.pad ?_)
 refine TO.efs 0 rfl rfl (by decide) (ef_append rfl rfl (by decide) rfl Tryz.underlying198 sz5 by5 z5 rfl (by decide) ⟨_, rfl, full_le _ _⟩ ⟨_, rfl, andIs_le _ _⟩ (by simp only [List.length_append, List.length_replicate, List.length_cons, List.length_nil]; unfold maxLen; omega) (by simp only [List.length_append, List.length_replicate, List.length_cons, List.length_nil]; omega) (appR_full (by exact List.Mem.head _) (vl rfl))) (fun v1 => ?_)
 refine ap ?_
 refine ac ?_
 refine co rfl (ok_quo rfl (vl rfl) (vl rfl) (by omega)) ?_
 refine ac ?_
 refine Fin.drop 1 ?_
 exact Fin.famD2V1 (k / 256) (acc + 1) v1 (⟨⟨by omega, by omega⟩, by omega⟩) ⟨⟨_, rfl, int_eq (by rw [Int.tdiv_eq_ediv_of_nonneg (by omega), wrap_in (by unfold InI; omega)]; omega)⟩, ⟨_, rfl, own_le (by rw [show ([u8R] : List (List Pr)) = List.replicate 1 u8R from rfl, rep_add, Nat.add_comm])⟩, trivial⟩ (fun _ _ h => h)
 have hk0 : k = 0 := by have := Nrm.nrm h2; omega
 subst hk0
 have hle := digC_le n
 rw [digC_zero] at hk1
 refine ac ?_
 refine ap ?_
 refine tp rfl (ok_len rfl Tryz.underlying198 ⟨_, rfl, andIs_le _ _⟩) (tp rfl (ki rfl rfl rfl rfl) (tp rfl (ok_conv rfl Tryz.underlying3 Tryz.underlying5 (vl rfl)) (tp rfl (ok_buildSlice (xs := [.tmp 22]) (rows := [u8R]) rfl rfl Tryz.underlying198 sz5 z5 rfl (by decide) ⟨⟨(by exact rfl), VL.le (vl rfl) (Pr.le_trans (is_anyK _ _) (one_cellsP _))⟩, trivial⟩ (by decide)) ?_)))
 refine tm rfl (TO.pad ?_)
 refine TO.efs 0 rfl rfl (by decide) (ef_append rfl rfl (by decide) rfl Tryz.underlying198 sz5 by5 z5 rfl (by decide) ⟨_, rfl, full_le _ _⟩ ⟨_, rfl, andIs_le _ _⟩ (by simp only [List.length_append, List.length_replicate, List.length_cons, List.length_nil]; unfold maxLen; omega) (by simp only [List.length_append, List.length_replicate, List.length_cons, List.length_nil]; omega) (appR_full (by exact List.Mem.head _) (vl rfl))) (fun v2 => ?_)
 refine ap ?_
 refine ac ?_
 · refine Pr.le_trans (andIs_le _ _) (Pr.le_of_eq ?_); unfold lenC; rw [if_neg (by omega), show ([u8R] : List (List Pr)) = List.replicate 1 u8R from rfl, rep_add, show acc = digC n by omega]
end Go.Proofs.YtppeeogffbpcbaaGreat
namespace Go.Proofs.YtppeeogffbpcbaaGreat
open Go Go.RowKit Cp
theorem w_rput {t : Int} {b : Nat} {n : Bool} {m : Nat} {q : Pr} {B : Nat}  (hb : b ≤ 1000) (hm : m ≤ 20) (hB : B ≤ 1000000) (ih : m = 0 ∨ Fun Tryz.prog 249 [agg (rowQ q)] (bytesE B)) : Fun Tryz.prog 249 [agg [int t, bts b, bool n, slice 4 (List.replicate m (rowQ q))]] (bytesE (2 * (1000 + 20 * B) + 2)) := by
 refine fo Tryz.func249 rfl ⟨rfl, rfl⟩ fun M0 w0 => ?_
 have hlr : (List.replicate m (rowQ q)).length = m := List.length_replicate
 have hlb : (List.replicate b u8R).length = b := List.length_replicate
 refine ac ?_
 refine ap ?_
 refine TO.pad ?_
 refine TO.efs 0 rfl rfl (by decide) (ef_append rfl rfl (by decide) rfl Tryz.underlying198 sz5 by5 z5 rfl (by decide) ⟨_, rfl, full_le _ _⟩ (vl rfl) (by simp only [List.length_append, List.length_replicate, List.length_cons, List.length_nil]; unfold maxLen; omega) (by simp only [List.length_append, List.length_replicate, List.length_cons, List.length_nil]; omega) (appR_full (by exact List.Mem.head _) (vl rfl))) (fun v1 => ?_)
 refine ap ?_
 refine ac ?_
 refine Tr.block (Tr.loopD2V1 [(1, _)] ⟨ke rfl, trivial⟩ (fun (k : Nat) (acc : Nat) v => [(4, int ((k : Nat) : Int)), (3, andIs v (bts acc))]) (fun (k : Nat) (acc : Nat) v => Hp M0 w0 noS ([appRes 5 1 v])) (fun (k : Nat) (acc : Nat) => k ≤ m ∧ acc ≤ b + k * B) (fun (k : Nat) (acc : Nat) => m - k) (0) (b) v1 (⟨by omega, by omega⟩) ⟨ke rfl, ⟨_, rfl, own_le (by simp)⟩, trivial⟩ (fun _ _ h => h) ?_)
 rintro k acc v ⟨hk1, hk2⟩
 have hkB : k * B ≤ 20 * B := Nat.mul_le_mul_right B (by omega)
 refine ac ?_
 refine co rfl (ok_len rfl Tryz.underlying221 (vl rfl)) ?_
 refine ac ?_
 refine Tr.cn rfl ?_ ?_ <;> intro h1 q1
 have hkm : k < m := by have := Nrm.nrm h1; rw [hlr] at this; omega
 have ih2 := ih.resolve_left (by omega)
 refine ac ?_
 refine ap ?_
 refine tp rfl (ok_indexAddr rfl Tryz.underlying221 sz223 (vl rfl) (vl rfl) (by omega) (rep_at hkm)) (tp rfl (ok_loadA rfl agg223 sz223 (vl rfl) rfl rfl) (tp rfl (kc1 (ih2) rfl rfl) ?_))
 refine TO.ex 22 rfl (fun z22 => TO.fact 22 rfl fun hz22 => ?_)
 refine TO.efs 0 rfl rfl (by decide) (ef_append rfl rfl (by decide) rfl Tryz.underlying198 sz5 by5 z5 rfl (by decide) ⟨_, rfl, andIs_le _ _⟩ (vl rfl) (by simp only [List.length_append, List.length_replicate, List.length_cons, List.length_nil]; unfold maxLen; omega) (by simp only [List.length_append, List.length_replicate, List.length_cons, List.length_nil]; omega) (appR_is (by exact List.Mem.head _) ⟨_, rfl, andIs_is _ _⟩)) (fun v2 => ?_)
 refine ap ?_
 refine wk3 1 3 4 rfl ?_
 refine ac ?_
 exact Fin.famD2V1 (k + 1) (acc + z22) v2 (⟨⟨by omega, by rw [Nat.succ_mul]; omega⟩, by omega⟩) ⟨⟨_, rfl, int_succ k⟩, ⟨_, rfl, own_le (by rw [rep_add])⟩, ke rfl, trivial⟩ (fun _ _ h => h)
 have hke : k = m := by have := Nrm.nrm h1; rw [hlr] at this; omega
 have hll := lenC_le acc
 refine ac ?_
 refine Tr.seq (Tr.pad (Tr.rx ?_))
 refine ay ?_
 refine xo rfl (fun _ => ok_conv rfl Tryz.underlying3 Tryz.underlying5 (vl rfl)) (xo rfl (fun _ => ok_buildSlice (xs := [.tmp 26]) (rows := [u8R]) rfl rfl Tryz.underlying198 sz5 z5 rfl (by decide) ⟨⟨(by exact rfl), VL.le (vl rfl) (Pr.le_trans (is_anyK _ _) (one_cellsP _))⟩, trivial⟩ (by decide)) ?_)
 refine xm rfl (xo rfl (fun _ => ok_len rfl Tryz.underlying198 ⟨_, rfl, andIs_le _ _⟩) ?_)
 refine xo rfl (fun _ => ok_call rfl (w_rlength (n := acc) (by omega)) ⟨⟨_, rfl, int_eq (by simp)⟩, trivial⟩) ?_
 refine Cx.ef 0 rfl rfl (by decide) (ef_append rfl rfl (by decide) rfl Tryz.underlying198 sz5 by5 z5 rfl (by decide) ⟨_, rfl, full_le _ _⟩ (vl rfl) (by simp only [List.length_append, List.length_replicate, List.length_cons, List.length_nil]; unfold maxLen; omega) (by simp only [List.length_append, List.length_replicate, List.length_cons, List.length_nil]; omega) (appR_full (by exact List.Mem.head _) (vl rfl))) ?_
 refine xm rfl ?_
 refine Cx.ef 0 rfl rfl (by decide) (ef_append rfl rfl (by decide) rfl Tryz.underlying198 sz5 by5 z5 rfl (by decide) (vl rfl) ⟨_, rfl, andIs_le _ _⟩ (by simp only [List.length_append, List.length_replicate, List.length_cons, List.length_nil]; unfold maxLen; omega) (by simp only [List.length_append, List.length_replicate, List.length_cons, List.length_nil]; omega) appR_slot) ?_
 refine Cx.ef 0 rfl rfl (by decide) (ef_move rfl rfl (by decide) rfl (vl rfl)) ?_
 refine Cx.nil ⟨by kernel_rfl, ?_⟩
 refine FinX.open_ 0 2 rfl rfl (fun v3 => ?_)
 refine FinX.done al2 (Fin.go (wk1 2 rfl ?_))
 refine ac ?_
 · exact bytesE_in (m := 1 + lenC acc + acc) (by have := lenC_le acc; omega) (Pr.le_trans (andIs_le _ _) (Pr.le_of_eq (by rw [show ([u8R] : List (List Pr)) = List.replicate 1 u8R from rfl, rep_add, rep_add])))
theorem w_rEncode {q : Pr} {D B : Nat} (hf : Fun Tryz.prog 247 [agg (rowQ q)] anyB) (hd : Fun Tryz.prog 248 [agg (rowQ q)] (depthE D)) (hp : Fun Tryz.prog 249 [agg (rowQ q)] (bytesE B)) : Fun Tryz.prog 201 [agg (rowQ q)] (tup [bytesE B, anyK .i64]) := by
 refine fo Tryz.func201 rfl ⟨rfl, rfl⟩ fun M0 w0 => ?_
 refine ac ?_
 refine ap ?_
 refine tp rfl (kc1 (hf) rfl rfl) ?_
 refine TO.ex 6 rfl (fun z6 => ?_)
 refine ap ?_
 refine Tr.cn rfl ?_ ?_ <;> intro h1 q1
 refine ac ?_
 refine Tr.ret (Fin.then_ret (Fin.ret2 rfl (OutW.bse _ _) rfl ?_ rfl ?_))
 · exact bytesE_in (m := 0) (by omega) (nil_slice 1)
 · exact is_anyK _ _
 refine ac ?_
 refine ap ?_
 refine tp rfl (kc1 (hd) rfl rfl) ?_
 refine TO.ex 9 rfl (fun z9 => TO.fact 9 rfl fun hz9 => ?_)
 refine ap ?_
 refine Tr.cn rfl ?_ ?_ <;> intro h2 q2
 refine ac ?_
 refine Tr.ret (Fin.then_ret (Fin.ret2 rfl (OutW.bse _ _) rfl ?_ rfl ?_))
 · exact bytesE_in (m := 0) (by omega) (nil_slice 1)
 · exact is_anyK _ _
 refine ac ?_
 refine ac ?_
 refine co rfl (kc1 (hp) rfl rfl) ?_
 refine ac ?_
 refine ap ?_
 refine TO.ex 13 rfl (fun z13 => TO.fact 13 rfl fun hz13 => ?_)
 refine tp rfl (ok_len rfl Tryz.underlying198 (vl rfl)) ?_
 refine ap ?_
 refine wk2 4 15 rfl ?_
 refine Tr.cn rfl ?_ ?_ <;> intro h3 q3
 refine ac ?_
 refine Tr.ret (Fin.then_ret (Fin.ret2 rfl (OutW.bse _ _) rfl ?_ rfl ?_))
 · exact bytesE_in (m := 0) (by omega) (nil_slice 1)
 · exact is_anyK _ _
 refine ac ?_
 refine ac ?_
 refine Tr.ret (Fin.ret2 rfl (OutW.bse _ _) rfl ?_ rfl ?_)
 · exact Pr.le_refl _
 · exact is_anyK _ _
theorem u8_zero : IntKind.u8.wrap 0 = 0 := rfl
def intMu (x h : Int) : Nat := (2 * x).toNat + (if 128 ≤ h then 1 else 0)
theorem int_step {x h : Int} {t : Nat} (h0 : 0 ≤ x) (hc : x ≠ 0 ∨ 128 ≤ h) (hi : t + intMu x h ≤ 400) : (0 ≤ x / 256 ∧ t + 1 + intMu (x / 256) (IntKind.u8.wrap x) ≤ 400) ∧ intMu (x / 256) (IntKind.u8.wrap x) < intMu x h := by
  have key : intMu (x / 256) (IntKind.u8.wrap x) < intMu x h := by
    unfold intMu
    by_cases hx : x = 0
    · subst hx
      rw [u8_zero, if_neg (by omega), if_pos (by omega)]; decide
    · have : (if 128 ≤ IntKind.u8.wrap x then 1 else 0) ≤ 1 := by split <;> omega
      have : 0 ≤ (if 128 ≤ h then 1 else 0) := by split <;> omega
      omega
  exact ⟨⟨by omega, by omega⟩, key⟩
theorem ok_shr8 {P : Program} {I : Asn} {E : Env} {o : Oper} {t u : TypeId} {x y : Operand} {m : Int} (ho : o.op = .binOp .shr t x y u) (hx : VL E x (int m)) (hy : VL E y (is (.int .u64 8))) (h0 : 0 ≤ m) : OpOK P I o E (int (m / 256)) :=
  OpOK.same fun M w a he _ => by
    have h1 : a.eval x = .int .i64 m := hx.ev he (by simp [ho, Op.operands])
    have h2 : a.eval y = .int .u64 8 := hy.ev he (by simp [ho, Op.operands])
    refine ⟨.int .i64 (m.fdiv 256), ?_, congrArg (Value.int .i64) (Int.fdiv_eq_ediv_of_nonneg m (by omega))⟩
    simp only [execOp, ho, h1, h2]
    simp [eqGuard, binOp, Op.shift, IntKind.bits]
abbrev q0 : Pr := slice 4 []

theorem w_rInt {n : Int} (hn : 0 ≤ n ∧ n ≤ 40000) : Fun Tryz.prog 252 [int n] (agg (rowQ q0)) := by
 refine fo Tryz.func252 rfl ⟨rfl, rfl⟩ fun M0 w0 => (Tr.seq (Tr.regT ?_))
 refine TO.alloc rfl rfl (by decide) rfl z223 zo223 (fun b1 => ?_)
 refine ap ?_
 refine ac ?_
 refine co rfl (ok_conv rfl Tryz.underlying3 Tryz.underlying5 (vl rfl)) ?_
 refine ac ?_
 refine ac ?_
 refine co rfl (ok_shr8 rfl (vl rfl) (vl rfl) (by omega)) ?_
 refine ac ?_
 refine Tr.block ?_
 refine Tr.loopD3V0 [(2, _)] ⟨ke rfl, trivial⟩ (fun (x : Int) (h : Int) (t : List Int) => [(4, int x), (3, slice 1 ((h :: t).map fun n => [is (.int .u8 n)]))]) (fun (x : Int) (h : Int) (t : List Int) => Hp M0 w0 noS ([cellsRes true b1 223 (([.int .i64 0, .slice none 0 0, .bool false, .slice none 0 0] : List Value).map is)])) (fun (x : Int) (h : Int) (t : List Int) => 0 ≤ x ∧ t.length + intMu x h ≤ 400) (fun (x : Int) (h : Int) (t : List Int) => intMu x h) (n / 256) (IntKind.u8.wrap n) ([])  (⟨by omega, by unfold intMu; simp only [List.length_nil]; split <;> omega⟩) ⟨ke rfl, ⟨_, rfl, Pr.le_trans (full_le _ _) (Pr.le_of_eq rfl)⟩, trivial⟩ (fun _ _ h => h) ?_
 rintro x h t  ⟨hx0, hmu⟩
 refine ac ?_
 refine Ch.cs 12 rfl ?_ ?_ <;> intro h1 q1
 refine ac ?_
 refine Ch.cs 16 rfl ?_ ?_ <;> intro h2 q2
 refine ac ?_
 refine wk4 2 3 4 35 rfl ?_
 refine ac ?_
 refine ap ?_
 refine tp rfl (ok_conv rfl Tryz.underlying3 Tryz.underlying5 (vl rfl)) ?_
 refine ap ?_
 refine TO.pad ?_
 refine TO.efs 0 rfl rfl (by decide) (ef_append rfl rfl (by decide) rfl Tryz.underlying198 sz5 by5 z5 rfl (by decide) ⟨_, rfl, full_le _ _⟩ (vl rfl) (by simp only [List.length_append, List.length_replicate, List.length_map, List.length_cons, List.length_nil]; unfold maxLen; omega) (by simp only [List.length_append, List.length_replicate, List.length_map, List.length_cons, List.length_nil]; omega) (appR_full (by exact List.Mem.head _) (vl rfl))) (fun v1 => ?_)
 refine ap ?_
 refine ac ?_
 refine co rfl (ok_shr8 rfl (vl rfl) (vl rfl) (by omega)) ?_
 refine ac ?_
 refine Fin.drop 0 (Fin.famD3V0 (x / 256) (IntKind.u8.wrap x) (h :: t)  ((int_step hx0 (by omega) hmu)) ⟨ke rfl, ⟨_, rfl, Pr.le_trans (andIs_le _ _) (Pr.le_of_eq rfl)⟩, ke rfl, trivial⟩ (fun _ _ h => h))
 refine ac ?_
 refine Ch.cs 19 rfl ?_ ?_ <;> intro h3 q3
 refine cym h3 rfl ?_
 refine cy h3 rfl (ok_indexAddr rfl Tryz.underlying198 sz5 (vl rfl) (vl rfl) (by omega) (row_at (k := 0) rfl)) ?_
 refine ac ?_
 refine Ch.cs 26 rfl ?_ ?_ <;> intro h4 q4
 refine ac ?_
 refine wk4 2 3 4 35 rfl ?_
 refine ac ?_
 refine ap ?_
 refine tp rfl (ok_conv rfl Tryz.underlying3 Tryz.underlying5 (vl rfl)) ?_
 refine ap ?_
 refine TO.pad ?_
 refine TO.efs 0 rfl rfl (by decide) (ef_append rfl rfl (by decide) rfl Tryz.underlying198 sz5 by5 z5 rfl (by decide) ⟨_, rfl, full_le _ _⟩ (vl rfl) (by simp only [List.length_append, List.length_replicate, List.length_map, List.length_cons, List.length_nil]; unfold maxLen; omega) (by simp only [List.length_append, List.length_replicate, List.length_map, List.length_cons, List.length_nil]; omega) (appR_full (by exact List.Mem.head _) (vl rfl))) (fun v2 => ?_)
 refine ap ?_
 refine ac ?_
 refine co rfl (ok_shr8 rfl (vl rfl) (vl rfl) (by omega)) ?_
 refine ac ?_
 refine Fin.drop 0 (Fin.famD3V0 (x / 256) (IntKind.u8.wrap x) (h :: t)  ((int_step hx0 (by omega) hmu)) ⟨ke rfl, ⟨_, rfl, Pr.le_trans (andIs_le _ _) (Pr.le_of_eq rfl)⟩, ke rfl, trivial⟩ (fun _ _ h => h))
 refine ac ?_
 refine Ch.cs 29 rfl ?_ ?_ <;> intro h5 q5
 refine cym h5 rfl ?_
 refine cy h5 rfl (ok_indexAddr rfl Tryz.underlying198 sz5 (vl rfl) (vl rfl) (by omega) (row_at (k := 0) rfl)) ?_
 refine ac ?_
 refine wk4 2 3 4 35 rfl ?_
 refine Tr.cn rfl ?_ ?_ <;> intro h6 q6
 have hc_ := h6
 refine ac ?_
 refine ap ?_
 refine tp rfl (ok_conv rfl Tryz.underlying3 Tryz.underlying5 (vl rfl)) ?_
 refine ap ?_
 refine TO.pad ?_
 refine TO.efs 0 rfl rfl (by decide) (ef_append rfl rfl (by decide) rfl Tryz.underlying198 sz5 by5 z5 rfl (by decide) ⟨_, rfl, full_le _ _⟩ (vl rfl) (by simp only [List.length_append, List.length_replicate, List.length_map, List.length_cons, List.length_nil]; unfold maxLen; omega) (by simp only [List.length_append, List.length_replicate, List.length_map, List.length_cons, List.length_nil]; omega) (appR_full (by exact List.Mem.head _) (vl rfl))) (fun v3 => ?_)
 refine ap ?_
 refine ac ?_
 refine co rfl (ok_shr8 rfl (vl rfl) (vl rfl) (by omega)) ?_
 refine ac ?_
 refine Fin.drop 0 (Fin.famD3V0 (x / 256) (IntKind.u8.wrap x) (h :: t)  ((int_step hx0 (by omega) hmu)) ⟨ke rfl, ⟨_, rfl, Pr.le_trans (andIs_le _ _) (Pr.le_of_eq rfl)⟩, ke rfl, trivial⟩ (fun _ _ h => h))
 have hc_ := h6
 refine ac ?_
 refine ap ?_
 refine Tr.ret (Fin.retX1 rfl (RVal.cell 0 rfl rfl agg223 sz223 rfl (Pr.le_refl _)) ?_)
 · exact agg_le ⟨is_anyK _ _, bytesE_in (m := (h :: t).length) (by simp only [List.length_cons]; omega) bts_of, ex_in _ (Pr.le_refl _), nil_slice 4, trivial⟩
 refine ac ?_
 refine wk4 2 3 4 35 rfl ?_
 refine ac ?_
 refine ap ?_
 refine Tr.ret (Fin.retX1 rfl (RVal.cell 0 rfl rfl agg223 sz223 rfl (Pr.le_refl _)) ?_)
 · exact agg_le ⟨is_anyK _ _, bytesE_in (m := (h :: t).length) (by simp only [List.length_cons]; omega) bts_of, ex_in _ (Pr.le_refl _), nil_slice 4, trivial⟩
 refine ac ?_
 refine Ch.cs 29 rfl ?_ ?_ <;> intro h7 q7
 refine cym h7 rfl ?_
 refine cy h7 rfl (ok_indexAddr rfl Tryz.underlying198 sz5 (vl rfl) (vl rfl) (by omega) (row_at (k := 0) rfl)) ?_
 refine ac ?_
 refine wk4 2 3 4 35 rfl ?_
 refine Tr.cn rfl ?_ ?_ <;> intro h8 q8
 have hc_ := h8
 refine ac ?_
 refine ap ?_
 refine tp rfl (ok_conv rfl Tryz.underlying3 Tryz.underlying5 (vl rfl)) ?_
 refine ap ?_
 refine TO.pad ?_
 refine TO.efs 0 rfl rfl (by decide) (ef_append rfl rfl (by decide) rfl Tryz.underlying198 sz5 by5 z5 rfl (by decide) ⟨_, rfl, full_le _ _⟩ (vl rfl) (by simp only [List.length_append, List.length_replicate, List.length_map, List.length_cons, List.length_nil]; unfold maxLen; omega) (by simp only [List.length_append, List.length_replicate, List.length_map, List.length_cons, List.length_nil]; omega) (appR_full (by exact List.Mem.head _) (vl rfl))) (fun v4 => ?_)
 refine ap ?_
 refine ac ?_
 refine co rfl (ok_shr8 rfl (vl rfl) (vl rfl) (by omega)) ?_
 refine ac ?_
 refine Fin.drop 0 (Fin.famD3V0 (x / 256) (IntKind.u8.wrap x) (h :: t)  ((int_step hx0 (by omega) hmu)) ⟨ke rfl, ⟨_, rfl, Pr.le_trans (andIs_le _ _) (Pr.le_of_eq rfl)⟩, ke rfl, trivial⟩ (fun _ _ h => h))
 have hc_ := h8
 refine ac ?_
 refine ap ?_
 refine Tr.ret (Fin.retX1 rfl (RVal.cell 0 rfl rfl agg223 sz223 rfl (Pr.le_refl _)) ?_)
 · exact agg_le ⟨is_anyK _ _, bytesE_in (m := (h :: t).length) (by simp only [List.length_cons]; omega) bts_of, ex_in _ (Pr.le_refl _), nil_slice 4, trivial⟩
 refine ac ?_
 refine wk4 2 3 4 35 rfl ?_
 refine ac ?_
 refine ap ?_
 refine Tr.ret (Fin.retX1 rfl (RVal.cell 0 rfl rfl agg223 sz223 rfl (Pr.le_refl _)) ?_)
 · exact agg_le ⟨is_anyK _ _, bytesE_in (m := (h :: t).length) (by simp only [List.length_cons]; omega) bts_of, ex_in _ (Pr.le_refl _), nil_slice 4, trivial⟩
 refine ac ?_
 refine Ch.cs 19 rfl ?_ ?_ <;> intro h9 q9
 refine cym h9 rfl ?_
 refine cy h9 rfl (ok_indexAddr rfl Tryz.underlying198 sz5 (vl rfl) (vl rfl) (by omega) (row_at (k := 0) rfl)) ?_
 refine ac ?_
 refine Ch.cs 26 rfl ?_ ?_ <;> intro h10 q10
 refine ac ?_
 refine wk4 2 3 4 35 rfl ?_
 refine ac ?_
 refine ap ?_
 refine tp rfl (ok_conv rfl Tryz.underlying3 Tryz.underlying5 (vl rfl)) ?_
 refine ap ?_
 refine TO.pad ?_
 refine TO.efs 0 rfl rfl (by decide) (ef_append rfl rfl (by decide) rfl Tryz.underlying198 sz5 by5 z5 rfl (by decide) ⟨_, rfl, full_le _ _⟩ (vl rfl) (by simp only [List.length_append, List.length_replicate, List.length_map, List.length_cons, List.length_nil]; unfold maxLen; omega) (by simp only [List.length_append, List.length_replicate, List.length_map, List.length_cons, List.length_nil]; omega) (appR_full (by exact List.Mem.head _) (vl rfl))) (fun v5 => ?_)
 refine ap ?_
 refine ac ?_
 refine co rfl (ok_shr8 rfl (vl rfl) (vl rfl) (by omega)) ?_
 refine ac ?_
 refine Fin.drop 0 (Fin.famD3V0 (x / 256) (IntKind.u8.wrap x) (h :: t)  ((int_step hx0 (by omega) hmu)) ⟨ke rfl, ⟨_, rfl, Pr.le_trans (andIs_le _ _) (Pr.le_of_eq rfl)⟩, ke rfl, trivial⟩ (fun _ _ h => h))
 refine ac ?_
 refine Ch.cs 29 rfl ?_ ?_ <;> intro h11 q11
 refine cym h11 rfl ?_
 refine cy h11 rfl (ok_indexAddr rfl Tryz.underlying198 sz5 (vl rfl) (vl rfl) (by omega) (row_at (k := 0) rfl)) ?_
 refine ac ?_
 refine wk4 2 3 4 35 rfl ?_
 refine Tr.cn rfl ?_ ?_ <;> intro h12 q12
 have hc_ := h12
 refine ac ?_
 refine ap ?_
 refine tp rfl (ok_conv rfl Tryz.underlying3 Tryz.underlying5 (vl rfl)) ?_
 refine ap ?_
 refine TO.pad ?_
 refine TO.efs 0 rfl rfl (by decide) (ef_append rfl rfl (by decide) rfl Tryz.underlying198 sz5 by5 z5 rfl (by decide) ⟨_, rfl, full_le _ _⟩ (vl rfl) (by simp only [List.length_append, List.length_replicate, List.length_map, List.length_cons, List.length_nil]; unfold maxLen; omega) (by simp only [List.length_append, List.length_replicate, List.length_map, List.length_cons, List.length_nil]; omega) (appR_full (by exact List.Mem.head _) (vl rfl))) (fun v6 => ?_)
 refine ap ?_
 refine ac ?_
 refine co rfl (ok_shr8 rfl (vl rfl) (vl rfl) (by omega)) ?_
 refine ac ?_
 refine Fin.drop 0 (Fin.famD3V0 (x / 256) (IntKind.u8.wrap x) (h :: t)  ((int_step hx0 (by omega) hmu)) ⟨ke rfl, ⟨_, rfl, Pr.le_trans (andIs_le _ _) (Pr.le_of_eq rfl)⟩, ke rfl, trivial⟩ (fun _ _ h => h))
 have hc_ := h12
 refine ac ?_
 refine ap ?_
 refine Tr.ret (Fin.retX1 rfl (RVal.cell 0 rfl rfl agg223 sz223 rfl (Pr.le_refl _)) ?_)
 · exact agg_le ⟨is_anyK _ _, bytesE_in (m := (h :: t).length) (by simp only [List.length_cons]; omega) bts_of, ex_in _ (Pr.le_refl _), nil_slice 4, trivial⟩
 refine ac ?_
 refine wk4 2 3 4 35 rfl ?_
 refine ac ?_
 refine ap ?_
 refine Tr.ret (Fin.retX1 rfl (RVal.cell 0 rfl rfl agg223 sz223 rfl (Pr.le_refl _)) ?_)
 · exact agg_le ⟨is_anyK _ _, bytesE_in (m := (h :: t).length) (by simp only [List.length_cons]; omega) bts_of, ex_in _ (Pr.le_refl _), nil_slice 4, trivial⟩
 refine ac ?_
 refine Ch.cs 29 rfl ?_ ?_ <;> intro h13 q13
 refine cym h13 rfl ?_
 refine cy h13 rfl (ok_indexAddr rfl Tryz.underlying198 sz5 (vl rfl) (vl rfl) (by omega) (row_at (k := 0) rfl)) ?_
 refine ac ?_
 refine wk4 2 3 4 35 rfl ?_
 refine Tr.cn rfl ?_ ?_ <;> intro h14 q14
 have hc_ := h14
 refine ac ?_
 refine ap ?_
 refine tp rfl (ok_conv rfl Tryz.underlying3 Tryz.underlying5 (vl rfl)) ?_
 refine ap ?_
 refine TO.pad ?_
 refine TO.efs 0 rfl rfl (by decide) (ef_append rfl rfl (by decide) rfl Tryz.underlying198 sz5 by5 z5 rfl (by decide) ⟨_, rfl, full_le _ _⟩ (vl rfl) (by simp only [List.length_append, List.length_replicate, List.length_map, List.length_cons, List.length_nil]; unfold maxLen; omega) (by simp only [List.length_append, List.length_replicate, List.length_map, List.length_cons, List.length_nil]; omega) (appR_full (by exact List.Mem.head _) (vl rfl))) (fun v7 => ?_)
 refine ap ?_
 refine ac ?_
 refine co rfl (ok_shr8 rfl (vl rfl) (vl rfl) (by omega)) ?_
 refine ac ?_
 refine Fin.drop 0 (Fin.famD3V0 (x / 256) (IntKind.u8.wrap x) (h :: t)  ((int_step hx0 (by omega) hmu)) ⟨ke rfl, ⟨_, rfl, Pr.le_trans (andIs_le _ _) (Pr.le_of_eq rfl)⟩, ke rfl, trivial⟩ (fun _ _ h => h))
 have hc_ := h14
 refine ac ?_
 refine ap ?_
 refine Tr.ret (Fin.retX1 rfl (RVal.cell 0 rfl rfl agg223 sz223 rfl (Pr.le_refl _)) ?_)
 · exact agg_le ⟨is_anyK _ _, bytesE_in (m := (h :: t).length) (by simp only [List.length_cons]; omega) bts_of, ex_in _ (Pr.le_refl _), nil_slice 4, trivial⟩
 refine ac ?_
 refine wk4 2 3 4 35 rfl ?_
 refine ac ?_
 refine ap ?_
 refine Tr.ret (Fin.retX1 rfl (RVal.cell 0 rfl rfl agg223 sz223 rfl (Pr.le_refl _)) ?_)
 · exact agg_le ⟨is_anyK _ _, bytesE_in (m := (h :: t).length) (by simp only [List.length_cons]; omega) bts_of, ex_in _ (Pr.le_refl _), nil_slice 4, trivial⟩
theorem w_rText {s : List UInt8} (hs : s.length ≤ 1000) : Fun Tryz.prog 250 [str s] (agg (rowQ q0)) := by
 refine fo Tryz.func250 rfl ⟨rfl, rfl⟩ fun M0 w0 => (Tr.seq (Tr.regT ?_))
 refine TO.alloc rfl rfl (by decide) rfl z223 zo223 (fun b1 => ?_)
 refine ap ?_
 refine ap ?_
 refine tp rfl (ok_bytes rfl Tryz.underlying9 Tryz.underlying198 Tryz.underlying5 (vl rfl) (by unfold maxLen; omega)) ?_
 refine ap ?_
 refine Tr.ret (Fin.retX1 rfl (RVal.cell 0 rfl rfl agg223 sz223 rfl (Pr.le_refl _)) ?_)
 · exact agg_le ⟨is_anyK _ _, bytesE_in (m := s.length) (by omega) (bts_of (f := fun c : UInt8 => ((c.toNat : Nat) : Int))), ex_in _ (Pr.le_refl _), nil_slice 4, trivial⟩
theorem w_rBool {b : Bool}  : Fun Tryz.prog 254 [bool b] (agg (rowQ q0)) := by
 refine fo Tryz.func254 rfl ⟨rfl, rfl⟩ fun M0 w0 => (Tr.seq (Tr.regT ?_))
 refine TO.alloc rfl rfl (by decide) rfl z223 zo223 (fun b1 => ?_)
 refine ap ?_
 refine ac ?_
 refine Tr.cn rfl ?_ ?_ <;> intro h1 q1
 refine ap ?_
 refine tp rfl (ok_build (rows := [(0, [_]), (1, [_])]) rfl bl223 zo223 ⟨⟨rfl, (VL.le (vl rfl) (one_cellsP _))⟩, ⟨⟨rfl, ⟨_, rfl, Pr.le_trans (full_le _ _) (one_cellsP _)⟩⟩, trivial⟩⟩ rfl) ?_
 refine ap ?_
 refine Tr.ret (Fin.then_ret (Fin.retX1 rfl (RVal.cell 0 rfl rfl agg223 sz223 rfl (Pr.le_refl _)) ?_))
 · exact agg_le ⟨is_anyK _ _, bytesE_in (m := 1) (by omega) (bts_one _), ex_in _ (Pr.le_refl _), nil_slice 4, trivial⟩
 refine ac ?_
 refine ap ?_
 refine tp rfl (ok_build (rows := [(0, [_]), (1, [_])]) rfl bl223 zo223 ⟨⟨rfl, (VL.le (vl rfl) (one_cellsP _))⟩, ⟨⟨rfl, ⟨_, rfl, Pr.le_trans (full_le _ _) (one_cellsP _)⟩⟩, trivial⟩⟩ rfl) ?_
 refine ap ?_
 refine Tr.ret (Fin.retX1 rfl (RVal.cell 0 rfl rfl agg223 sz223 rfl (Pr.le_refl _)) ?_)
 · exact agg_le ⟨is_anyK _ _, bytesE_in (m := 1) (by omega) (bts_one _), ex_in _ (Pr.le_refl _), nil_slice 4, trivial⟩
theorem w_rcopies {m : Nat} {q : Pr} [One q]  (hm : m ≤ 20) (ih : m = 0 ∨ Fun Tryz.prog 286 [q] q) : Fun Tryz.prog 286 [slice 4 (List.replicate m (rowQ q))] (slice 4 (List.replicate m (rowQ q))) := by
 refine Fun.of Tryz.func286 rfl rfl (by exact Nat.le_of_ble_eq_true rfl) fun M0 w0 => ?_
 have hlr : (List.replicate m (rowQ q)).length = m := List.length_replicate
 refine Tr.seq (Tr.reg0 (cm rfl (Ch.nil (Fin.go (Tr.seq (Tr.reg0 (cm rfl (Ch.nil (Fin.go (Tr.seq (Tr.seq (Tr.reg0 (cm rfl ?_)))))))))))))
 refine Ch.nil (Fin.go (Tr.block (Tr.addnil 223 4 (Tr.loopV1 [(0, _)] ⟨ke rfl, trivial⟩ (fun k v => [(4, int ((k : Nat) : Int)), (3, andIs v (slice 4 (List.replicate k (rowQ q))))]) (fun k v => Hp M0 w0 noS ([appRes 223 4 v])) (fun k : Nat => k ≤ ((List.replicate m (rowQ q)).length)) (fun k : Nat => ((List.replicate m (rowQ q)).length) - k) 0 (.slice none 0 0) (Nat.zero_le _) ⟨ke rfl, ⟨_, rfl, own_nil rfl⟩, trivial⟩ (fun _ _ h => h) ?_))))
 rintro k v hle_k
 refine Tr.seq (Tr.seq (Tr.reg0 (cm rfl (cm rfl (co rfl (ok_len rfl Tryz.underlying221 (vl rfl)) (co rfl (ki rfl rfl rfl rfl) (Ch.nil (Fin.go ?_))))))))
 refine Tr.cn rfl ?_ ?_ <;> intro h1 q1
 have hk_k : k < ((List.replicate m (rowQ q)).length) := lt_of_dec h1
 have hkm : k < m := by simpa using hk_k
 have ih2 := ih.resolve_left (by omega)
 refine Tr.skip (Fin.go (Tr.seq (Tr.block (Tr.seq (Tr.regT (tm rfl (tm rfl (tp rfl (ok_indexAddr rfl Tryz.underlying221 sz223 (vl rfl) (vl rfl) (by omega) (rep_at hkm)) (tp rfl (ok_loadA rfl agg223 sz223 (vl rfl) rfl rfl) ?_)))))))))
 refine TO.alloc rfl rfl (by decide) rfl z223 zo223 (fun b1 => ?_)
 refine TO.store_all 0 rfl rfl rfl (vl rfl) (VL.le (vl rfl) (agg_cellsP _)) rfl sz223 rfl rfl (TO.nil (Fin.go (Tr.seq (Tr.regT (tp rfl (ok_buildSlice (xs := []) (rows := []) rfl rfl Tryz.underlying198 sz5 z5 rfl (by decide) trivial (by decide)) (tp rfl (okp_fieldAddr rfl fo223_1 (vl rfl)) (TO.rd 0 rfl rfl rfl (by decide) (rd_load1 rfl one198 (vl rfl) rfl) ?_)))))))
 refine TO.ex 18 rfl (fun z18 => TO.fact 18 rfl fun hz18 => ?_)
 refine TO.pad ?_
 refine TO.efs 0 rfl rfl (by decide) (ef_append rfl rfl (by decide) rfl Tryz.underlying198 sz5 by5 z5 rfl (by decide) ⟨_, rfl, full_le _ _⟩ (vl rfl) (by simp only [List.length_append, List.length_replicate, List.length_cons, List.length_nil]; unfold maxLen; omega) (by simp only [List.length_append, List.length_replicate, List.length_cons, List.length_nil]; omega) (appR_full (by exact List.Mem.head _) (vl rfl))) (fun v1 => ?_)
 refine tp rfl (okp_fieldAddr rfl fo223_1 (vl rfl)) (TO.ef0 1 rfl rfl (ef_store rfl rfl (vl rfl) (VL.le (vl rfl) (one_cellsP _)) sz198 rfl (by exact Nat.le_of_ble_eq_true rfl) rfl) (TO.nil (Fin.go (wk4 0 3 4 5 rfl (Tr.seq (Tr.regT (tp rfl (okp_fieldAddr rfl fo223_3 (vl rfl)) (TO.rd 1 rfl rfl rfl (by decide) (rd_load1 rfl one221 (vl rfl) rfl) (tp rfl (ok_call rfl (ih2) ⟨ke rfl, trivial⟩) (tp rfl (okp_fieldAddr rfl fo223_3 (vl rfl)) (TO.ef0 1 rfl rfl (ef_store rfl rfl (vl rfl) (VL.le (vl rfl) (one_cellsP _)) sz221 rfl (by exact Nat.le_of_ble_eq_true rfl) rfl) (TO.nil (Fin.go (Tr.regT ?_))))))))))))))
 refine tm rfl (TO.rd 1 rfl rfl rfl (by decide) (rd_loadA rfl agg223 sz223 (vl rfl) rfl rfl) (tp rfl (ok_buildSlice (xs := [.tmp 26]) (rows := [rowQ q]) rfl rfl Tryz.underlying221 sz223 z223 rfl (by decide) ⟨⟨(by exact rfl), VL.le (vl rfl) (Pr.le_trans (agg_le (qs := rowQ q) ⟨Pr.le_refl _, bytesE_in (m := z18) (by omega) (Pr.le_trans (andIs_le _ _) (Pr.le_of_eq rfl)), Pr.le_refl _, Pr.le_refl _, trivial⟩) (agg_cellsP _))⟩, trivial⟩ (by decide)) ?_))
 refine TO.efs 2 rfl rfl (by decide) (ef_append rfl rfl (by decide) rfl Tryz.underlying221 sz223 by223 z223 rfl (by decide) ⟨_, rfl, andIs_le _ _⟩ ⟨_, rfl, full_le _ _⟩ (by simp only [List.length_append, List.length_replicate, List.length_cons, List.length_nil]; unfold maxLen; omega) (by simp only [List.length_append, List.length_replicate, List.length_cons, List.length_nil]; omega) (appR_is (by exact List.Mem.head _) ⟨_, rfl, andIs_is _ _⟩)) (fun v2 => ?_)
 refine tm rfl (TO.nil (Fin.block (Fin.go (Tr.drop 1 (Tr.reg0 (cm rfl (cad rfl rfl rfl rfl (by omega) (cm rfl (Ch.nil (Fin.drop 0 (Fin.famV1 (k + 1) v2 (⟨hk_k, by omega⟩) ⟨⟨_, rfl, int_succ k⟩, ⟨_, rfl, own_le (by rw [rep_one])⟩, ke rfl, trivial⟩ (fun _ _ h => h))))))))))))
 have he_k : k = ((List.replicate m (rowQ q)).length) := by have := ge_of_dec h1; omega
 refine Tr.exit (Fin.then_exit (Fin.then_exit (Fin.block_here (Fin.go (Tr.seq (Tr.reg0 (cm rfl (cm rfl (Ch.nil (Fin.go (Tr.ret (Fin.ret1 rfl (OutW.bse _ _) rfl ?_))))))))))))
 · exact Pr.le_trans (andIs_le _ _) (Pr.le_of_eq (by rw [he_k, hlr]))
theorem w_rList {m : Nat} {q : Pr}  (hm : m ≤ 20) (hc : Fun Tryz.prog 286 [slice 4 (List.replicate m (rowQ q))] (slice 4 (List.replicate m (rowQ q)))) : Fun Tryz.prog 251 [slice 4 (List.replicate m (rowQ q))] (agg (rowQ (elemsE (rowQ q)))) := by
 refine fo Tryz.func251 rfl ⟨rfl, rfl⟩ fun M0 w0 => (Tr.seq (Tr.regT ?_))
 refine TO.alloc rfl rfl (by decide) rfl z223 zo223 (fun b1 => ?_)
 refine ap ?_
 refine ap ?_
 refine tp rfl (kc1 (hc) rfl rfl) ?_
 refine ap ?_
 refine Tr.ret (Fin.retX1 rfl (RVal.cell 0 rfl rfl agg223 sz223 rfl (Pr.le_refl _)) ?_)
 · exact agg_le ⟨is_anyK _ _, bytesE_in (m := 0) (by omega) (nil_slice 1), ex_in _ (Pr.le_refl _), ex_in m (fact_in hm (Pr.le_refl _)), trivial⟩
end Go.Proofs.YtppeeogffbpcbaaGreat
namespace Go.Proofs.YtppeeogffbpcbaaGreat
open Go Go.RowKit Cp

structure Crt.vf (c : Crt) : Prop where
  s0 : 0 ≤ c.serial
  s1 : c.serial ≤ 1099511627776
  iss : named c.issuer = true
  sub : named c.subject = true
  nm : namesB c.names = true
  key : ofB c.kalg c.kbits 2 = true
  k0 : 0 ≤ c.keyId
  k1 : c.keyId ≤ 2147483648
  hash : ofB c.halg c.hbits 1 = true
  sk0 : 0 ≤ c.skey
  sk1 : c.skey ≤ 2147483648
  su0 : 0 ≤ c.ssum
  su1 : c.ssum < 4294967296
  f0 : 0 ≤ c.from_
  ft : c.from_ ≤ c.to_
  t1 : c.to_ ≤ 40000
  p0 : 0 ≤ c.path
  p1 : c.path ≤ 8
  ap : c.auth = true ∨ c.path = 0
theorem vf_of {c : Crt} (hv : validB c = true) : c.vf := by
  simp only [validB, keyB, sumB, Bool.and_eq_true, Bool.or_eq_true, decide_eq_true_eq, beq_iff_eq] at hv
  obtain ⟨⟨⟨⟨⟨⟨⟨h1, h2⟩, h3⟩, h4⟩, h5⟩, ⟨⟨⟨⟨h6, ⟨h7, h8⟩⟩, h9⟩, ⟨h10, h11⟩⟩, ⟨h12, h13⟩⟩⟩, ⟨⟨h14, h15⟩, h16⟩⟩, ⟨⟨h17, h18⟩, h19⟩⟩ := hv
  exact ⟨h1, h2, h3, h4, h5, h6, h7, h8, h9, h10, h11, h12, h13, h14, h15, h16, h17, h18, h19⟩
theorem of_vf {c : Crt} (h : c.vf) : validB c = true := by
  simp only [validB, keyB, sumB, Bool.and_eq_true, Bool.or_eq_true, decide_eq_true_eq, beq_iff_eq]
  exact ⟨⟨⟨⟨⟨⟨⟨h.s0, h.s1⟩, h.iss⟩, h.sub⟩, h.nm⟩, ⟨⟨⟨⟨h.key, ⟨h.k0, h.k1⟩⟩, h.hash⟩, ⟨h.sk0, h.sk1⟩⟩, ⟨h.su0, h.su1⟩⟩⟩, ⟨⟨h.f0, h.ft⟩, h.t1⟩⟩, ⟨⟨h.p0, h.p1⟩, h.ap⟩⟩
theorem of_iff {a b k : Int} (h : ofB a b k = true) : decide (strength a b > 0) = true ∧ (catOf a).kind = k := by
  unfold ofB at h; simpa using h


theorem name_at {l : List (List UInt8)} {k : Nat} {s : List UInt8} (h : nameAt l k = true) (hs : l[k]? = some s) : named s = true := by
  unfold nameAt at h; rw [hs] at h; simp at h; exact h.1
theorem name_lt {l : List (List UInt8)} {k : Nat} {s y : List UInt8} (h : nameAt l k = true) (hs : l[k]? = some s) (hy : l[k - 1]? = some y) (hk : 0 < k) : decide (Lib.compareBytes y s = -1) = true := by
  unfold nameAt at h; rw [hs, hy] at h; simp at h
  rcases h.2 with h2 | h2
  · omega
  · simpa using h2

theorem w_R3Check {c : Crt} (hv : validB c = true) : Fun Tryz.prog 159 [agg (rowCr c)] (int 0) := by
 refine fo Tryz.func159 rfl ⟨rfl, rfl⟩ fun M0 w0 => ?_
 obtain ⟨hs0, hs1, hiss, hsub, hnm, hkey, hk0, hk1, hhash, hsk0, hsk1, hsu0, hsu1, hf0, hft, ht1, hp0, hp1, hap⟩ := vf_of hv
 obtain ⟨hkey1, hkey2⟩ := of_iff hkey
 obtain ⟨hh1, hh2⟩ := of_iff hhash
 have hnm2 := hnm
 unfold namesB at hnm2
 rw [Bool.and_eq_true, allI_iff, decide_eq_true_eq] at hnm2
 obtain ⟨hall, hlen8⟩ := hnm2
 refine ac ?_
 refine ac ?_
 refine Ch.cs 7 rfl ?_ ?_ <;> intro h1 q1
 exfalso; have := q1; omega
 refine ac ?_
 refine Ch.cs 12 rfl ?_ ?_ <;> intro h2 q2
 exfalso; have := q2; omega
 refine ac ?_
 refine cy h2 rfl (kc1 (w_RName) rfl rfl) ?_
 refine ac ?_
 refine Ch.cs 18 rfl ?_ ?_ <;> intro h3 q3
 rw [hiss] at h3; exact absurd h3 (by decide)
 refine ac ?_
 refine cy h3 rfl (kc1 (w_RName) rfl rfl) ?_
 refine ac ?_
 refine Ch.cs 24 rfl ?_ ?_ <;> intro h4 q4
 rw [hsub] at h4; exact absurd h4 (by decide)
 refine ac ?_
 refine cy h4 rfl (kc1 (w_Signature) rfl rfl) ?_
 refine ac ?_
 refine Ch.cs 30 rfl ?_ ?_ <;> intro h5 q5
 rw [hkey1, hkey2] at h5; exact absurd h5 (by decide)
 refine ac ?_
 refine Ch.cs 35 rfl ?_ ?_ <;> intro h6 q6
 exfalso; have := q6; omega
 refine ac ?_
 refine wk2 1 39 rfl ?_
 refine Tr.cn rfl ?_ ?_ <;> intro h7 q7
 exfalso; have := q7; omega
 refine ac ?_
 refine ac ?_
 refine co rfl (kc1 (w_RValid) rfl rfl) ?_
 refine ac ?_
 refine Ch.cs 44 rfl ?_ ?_ <;> intro h8 q8
 rw [hh1] at h8; exact absurd h8 (by decide)
 refine ac ?_
 refine cy h8 rfl (kc1 (w_RKind) rfl rfl) ?_
 refine ac ?_
 refine Ch.cs 51 rfl ?_ ?_ <;> intro h9 q9
 rw [hh2] at h9; exact absurd h9 (by decide)
 refine ac ?_
 refine Ch.cs 56 rfl ?_ ?_ <;> intro h10 q10
 exfalso; have := q10; omega
 refine ac ?_
 refine Ch.cs 63 rfl ?_ ?_ <;> intro h11 q11
 exfalso; have := q11; omega
 refine ac ?_
 refine wk2 1 67 rfl ?_
 refine Tr.cn rfl ?_ ?_ <;> intro h12 q12
 exfalso; have := q12; omega
 refine ac ?_
 refine ac ?_
 refine Ch.cs 71 rfl ?_ ?_ <;> intro h13 q13
 exfalso; have := q13; omega
 refine ac ?_
 refine Ch.cs 76 rfl ?_ ?_ <;> intro h14 q14
 exfalso; have := q14; omega
 refine ac ?_
 refine Ch.cs 80 rfl ?_ ?_ <;> intro h15 q15
 refine ac ?_
 refine Ch.cs 86 rfl ?_ ?_ <;> intro h16 q16
 exfalso; have := q16; simp_all
 refine ac ?_
 refine wk2 1 91 rfl ?_
 refine Tr.cn rfl ?_ ?_ <;> intro h17 q17
 exfalso; have := q17; omega
 refine ac ?_
 refine ac ?_
 refine Tr.block (Tr.loopw [(1, _)] ⟨ke rfl, trivial⟩ (fun k : Nat => [(3, int ((k : Nat) : Int))]) (fun k : Nat => k ≤ (c.names).length) (fun k : Nat => (c.names).length - k) 0 (Nat.zero_le _) ⟨ke rfl, trivial⟩ ?_)
 rintro k hle_k
 refine ac ?_
 refine Tr.cn rfl ?_ ?_ <;> intro h18 q18
 have hk_k : k < (c.names).length := lt_of_dec h18
 obtain ⟨s, hx_k⟩ := at_ hk_k
 have hat := hall k (by omega)
 have hna := name_at hat hx_k
 refine ac ?_
 refine ac ?_
 refine co rfl (ok_indexAddr rfl Tryz.underlying74 sz9 (vl rfl) (vl rfl) (by omega) (row_at hx_k)) (co rfl (kl1 rfl one9 rfl) (co rfl (kc1 (w_RName) rfl rfl) ?_))
 refine ac ?_
 refine Ch.cs 106 rfl ?_ ?_ <;> intro h19 q19
 exfalso; rw [hna] at h19; exact absurd h19 (by decide)
 refine ac ?_
 refine Ch.cs 109 rfl ?_ ?_ <;> intro h20 q20
 have hk00 : 0 < k := by simpa using h20
 obtain ⟨y, hy⟩ := at_ (l := c.names) (k := k - 1) (by omega)
 have hlt := name_lt hat hx_k hy hk00
 refine ac ?_
 refine cy h20 rfl (ok_indexAddr rfl Tryz.underlying74 sz9 (vl rfl) (vl rfl) (by omega) (by rw [show ((k : Nat) : Int) - 1 = ((k - 1 : Nat) : Int) by omega]; exact row_at hy)) ?_
 refine ac ?_
 refine cy h20 rfl (ok_indexAddr rfl Tryz.underlying74 sz9 (vl rfl) (vl rfl) (by omega) (row_at hx_k)) (cy h20 rfl (kl1 rfl one9 rfl) (cy h20 rfl (ok_ges rfl (vl rfl) (vl rfl)) ?_))
 refine ac ?_
 refine wk3 1 3 123 rfl ?_
 refine Tr.cn rfl ?_ ?_ <;> intro h21 q21
 exfalso; rw [hlt] at h21; exact absurd h21 (by decide)
 refine ac ?_
 refine ac ?_
 exact Fin.fam_same (k + 1) ⟨hk_k, by omega⟩ ⟨⟨_, rfl, int_succ k⟩, ke rfl, trivial⟩
 refine ac ?_
 refine wk3 1 3 123 rfl ?_
 refine ac ?_
 refine ac ?_
 exact Fin.fam_same (k + 1) ⟨hk_k, by omega⟩ ⟨⟨_, rfl, int_succ k⟩, ke rfl, trivial⟩
 have he_k : k = (c.names).length := by have := ge_of_dec h18; omega
 refine ac ?_
 refine ac ?_
 refine Ch.cs 128 rfl ?_ ?_ <;> intro h22 q22
 exfalso; have := q22; omega
 refine ac ?_
 refine Ch.cs 134 rfl ?_ ?_ <;> intro h23 q23
 exfalso; have := q23; omega
 refine ac ?_
 refine Ch.cs 140 rfl ?_ ?_ <;> intro h24 q24
 exfalso; have := q24; omega
 refine ac ?_
 refine wk1 145 rfl ?_
 refine Tr.cn rfl ?_ ?_ <;> intro h25 q25
 exfalso; have := q25; omega
 refine ac ?_
 refine ac ?_
 refine ac ?_
 · exact Pr.le_refl _
 refine ac ?_
 refine wk2 1 91 rfl ?_
 refine Tr.cn rfl ?_ ?_ <;> intro h26 q26
 exfalso; have := q26; omega
 refine ac ?_
 refine ac ?_
 refine Tr.block (Tr.loopw [(1, _)] ⟨ke rfl, trivial⟩ (fun k : Nat => [(3, int ((k : Nat) : Int))]) (fun k : Nat => k ≤ (c.names).length) (fun k : Nat => (c.names).length - k) 0 (Nat.zero_le _) ⟨ke rfl, trivial⟩ ?_)
 rintro k hle_k
 refine ac ?_
 refine Tr.cn rfl ?_ ?_ <;> intro h27 q27
 have hk_k : k < (c.names).length := lt_of_dec h27
 obtain ⟨s, hx_k⟩ := at_ hk_k
 have hat := hall k (by omega)
 have hna := name_at hat hx_k
 refine ac ?_
 refine ac ?_
 refine co rfl (ok_indexAddr rfl Tryz.underlying74 sz9 (vl rfl) (vl rfl) (by omega) (row_at hx_k)) (co rfl (kl1 rfl one9 rfl) (co rfl (kc1 (w_RName) rfl rfl) ?_))
 refine ac ?_
 refine Ch.cs 106 rfl ?_ ?_ <;> intro h28 q28
 exfalso; rw [hna] at h28; exact absurd h28 (by decide)
 refine ac ?_
 refine Ch.cs 109 rfl ?_ ?_ <;> intro h29 q29
 have hk00 : 0 < k := by simpa using h29
 obtain ⟨y, hy⟩ := at_ (l := c.names) (k := k - 1) (by omega)
 have hlt := name_lt hat hx_k hy hk00
 refine ac ?_
 refine cy h29 rfl (ok_indexAddr rfl Tryz.underlying74 sz9 (vl rfl) (vl rfl) (by omega) (by rw [show ((k : Nat) : Int) - 1 = ((k - 1 : Nat) : Int) by omega]; exact row_at hy)) ?_
 refine ac ?_
 refine cy h29 rfl (ok_indexAddr rfl Tryz.underlying74 sz9 (vl rfl) (vl rfl) (by omega) (row_at hx_k)) (cy h29 rfl (kl1 rfl one9 rfl) (cy h29 rfl (ok_ges rfl (vl rfl) (vl rfl)) ?_))
 refine ac ?_
 refine wk3 1 3 123 rfl ?_
 refine Tr.cn rfl ?_ ?_ <;> intro h30 q30
 exfalso; rw [hlt] at h30; exact absurd h30 (by decide)
 refine ac ?_
 refine ac ?_
 exact Fin.fam_same (k + 1) ⟨hk_k, by omega⟩ ⟨⟨_, rfl, int_succ k⟩, ke rfl, trivial⟩
 refine ac ?_
 refine wk3 1 3 123 rfl ?_
 refine ac ?_
 refine ac ?_
 exact Fin.fam_same (k + 1) ⟨hk_k, by omega⟩ ⟨⟨_, rfl, int_succ k⟩, ke rfl, trivial⟩
 have he_k : k = (c.names).length := by have := ge_of_dec h27; omega
 refine ac ?_
 refine ac ?_
 refine Ch.cs 128 rfl ?_ ?_ <;> intro h31 q31
 exfalso; have := q31; omega
 refine ac ?_
 refine Ch.cs 134 rfl ?_ ?_ <;> intro h32 q32
 exfalso; have := q32; omega
 refine ac ?_
 refine Ch.cs 140 rfl ?_ ?_ <;> intro h33 q33
 exfalso; have := q33; omega
 refine ac ?_
 refine wk1 145 rfl ?_
 refine Tr.cn rfl ?_ ?_ <;> intro h34 q34
 exfalso; have := q34; omega
 refine ac ?_
 refine ac ?_
 refine ac ?_
 · exact Pr.le_refl _
end Go.Proofs.YtppeeogffbpcbaaGreat
namespace Go.Proofs.YtppeeogffbpcbaaGreat
open Go Go.RowKit Cp

abbrev u32R : Pr := Cp.ex fun n : Int => fact (0 ≤ n ∧ n < 4294967296) (is (.int .u32 n))
abbrev sumE : Pr := Cp.ex fun n : Int => fact (0 ≤ n ∧ n < 4294967296) (int n)
theorem u32_any : Pr.le u32R (anyK .u32) := fun _ _ _ ⟨n, _, h⟩ => ⟨n, h⟩
section
variable {P : Program} {I : Asn} {E : Env} {o : Oper}
theorem ok_convK {s t : TypeId} {x : Operand} {k k' : IntKind} (ho : o.op = .convert s t x) (hs : P.underlying s = some (.int k)) (ht : P.underlying t = some (.int k')) (hx : VL E x (anyK k)) : OpOK P I o E (anyK k') :=
  OpOK.same fun M w a he _ => by
    obtain ⟨n, h1⟩ := hx.ev he (by simp [ho, Op.operands])
    have h1 : a.eval x = .int k n := h1
    refine ⟨.int k' (k'.wrap n), ?_, _, rfl⟩
    simp [execOp, ho, h1, convert, run_underlying hs, run_underlying ht, Conv.intToInt, Sem.run_bind]
theorem ok_mulU {t u : TypeId} {x y : Operand} (ho : o.op = .binOp .mul t x y u) (hx : VL E x (anyK .u32)) (hy : VL E y (anyK .u32)) : OpOK P I o E u32R :=
  OpOK.same fun M w a he _ => by
    obtain ⟨m, h1⟩ := hx.ev he (by simp [ho, Op.operands])
    obtain ⟨n, h2⟩ := hy.ev he (by simp [ho, Op.operands])
    have h1 : a.eval x = .int .u32 m := h1
    have h2 : a.eval y = .int .u32 n := h2
    refine ⟨.int .u32 (IntKind.u32.wrap (m * n)), by simp [execOp, ho, h1, h2, eqGuard, binOp, Op.intArith], _, ?_, rfl⟩
    rw [IntKind.wrap_u32]; omega
theorem ok_conv32 {s t : TypeId} {x : Operand} (ho : o.op = .convert s t x) (hs : P.underlying s = some (.int .u32)) (ht : P.underlying t = some (.int .i64)) (hx : VL E x u32R) : OpOK P I o E sumE :=
  OpOK.same fun M w a he _ => by
    obtain ⟨n, hn, h1⟩ := hx.ev he (by simp [ho, Op.operands])
    have h1 : a.eval x = .int .u32 n := h1
    refine ⟨.int .i64 (IntKind.i64.wrap n), ?_, n, hn, by rw [wrap_in (by unfold InI; omega)]; rfl⟩
    simp [execOp, ho, h1, convert, run_underlying hs, run_underlying ht, Conv.intToInt, Sem.run_bind]
end
theorem Fun.elemsE {P : Program} {f : FuncId} {row : List Pr} (h : ∀ m, m ≤ 20 → Fun P f [slice 4 (List.replicate m row)] (slice 4 (List.replicate m row))) : Fun P f [Go.Proofs.YtppeeogffbpcbaaGreat.elemsE row] (Go.Proofs.YtppeeogffbpcbaaGreat.elemsE row) := by
  refine ⟨(h 0 (by omega)).1, fun M w vs hb hv => ?_⟩
  match vs, hv with
  | [u0], hv1 =>
    obtain ⟨⟨m, hm, h0⟩, _⟩ := hv1
    exact ((h m hm).2 M w [u0] hb ⟨h0, trivial⟩).mono fun e w' ⟨v, h1, h2, h3⟩ => ⟨v, h1, ⟨m, hm, h2⟩, h3⟩
theorem Fun.bytesE {P : Program} {f : FuncId} {B : Nat} {res : Pr} (h : ∀ m, m ≤ B → Fun P f [bts m] res) : Fun P f [Go.Proofs.YtppeeogffbpcbaaGreat.bytesE B] res := by
  refine ⟨(h 0 (by omega)).1, fun M w vs hb hv => ?_⟩
  match vs, hv with
  | [u0], hv1 =>
    obtain ⟨⟨m, hm, h0⟩, _⟩ := hv1
    exact (h m hm).2 M w [u0] hb ⟨h0, trivial⟩
abbrev qA1 : Pr := elemsE (rowQ q0)
abbrev qA2 : Pr := elemsE (rowQ qA1)
theorem q0_le : Pr.le q0 qA1 := ex_in 0 (fact_in (by omega) (Pr.le_refl _))
theorem rc0 : Fun Tryz.prog 286 [q0] q0 := w_rcopies (m := 0) (q := q0) (by omega) (.inl rfl)
theorem rc1 (m : Nat) (hm : m ≤ 20) : Fun Tryz.prog 286 [slice 4 (List.replicate m (rowQ q0))] (slice 4 (List.replicate m (rowQ q0))) := w_rcopies hm (.inr rc0)
theorem rc2 (m : Nat) (hm : m ≤ 20) : Fun Tryz.prog 286 [slice 4 (List.replicate m (rowQ qA1))] (slice 4 (List.replicate m (rowQ qA1))) := w_rcopies hm (.inr (Fun.elemsE rc1))
theorem rf0 : Fun Tryz.prog 247 [agg (rowQ q0)] anyB := Fun.rowQ0 fun t b n hb => w_rformed (m := 0) (q := q0) hb (by omega) (.inl rfl)
theorem rf1 : Fun Tryz.prog 247 [agg (rowQ qA1)] anyB := Fun.rowQ fun t b n m hb hm => w_rformed hb hm (.inr rf0)
theorem rf2 : Fun Tryz.prog 247 [agg (rowQ qA2)] anyB := Fun.rowQ fun t b n m hb hm => w_rformed hb hm (.inr rf1)
theorem rd0 : Fun Tryz.prog 248 [agg (rowQ q0)] (depthE 1) := Fun.rowQ0 fun t b n hb => w_rdepth (m := 0) (q := q0) (D := 0) hb (by omega) (by omega) (.inl rfl)
theorem rd1 : Fun Tryz.prog 248 [agg (rowQ qA1)] (depthE 2) := Fun.rowQ fun t b n m hb hm => w_rdepth hb hm (by omega) (.inr rd0)
theorem rd2 : Fun Tryz.prog 248 [agg (rowQ qA2)] (depthE 3) := Fun.rowQ fun t b n m hb hm => w_rdepth hb hm (by omega) (.inr rd1)
theorem rp0 : Fun Tryz.prog 249 [agg (rowQ q0)] (bytesE 2002) := Fun.rowQ0 fun t b n hb => w_rput (m := 0) (q := q0) (B := 0) hb (by omega) (by omega) (.inl rfl)
theorem rp1 : Fun Tryz.prog 249 [agg (rowQ qA1)] (bytesE 82082) := Fun.rowQ fun t b n m hb hm => w_rput (B := 2002) hb hm (by omega) (.inr rp0)
theorem rp2 : Fun Tryz.prog 249 [agg (rowQ qA2)] (bytesE 3285282) := Fun.rowQ fun t b n m hb hm => w_rput (B := 82082) hb hm (by omega) (.inr rp1)
theorem rE2 : Fun Tryz.prog 201 [agg (rowQ qA2)] (tup [bytesE 3285282, anyK .i64]) := w_rEncode rf2 rd2 rp2
/-- Its numbers are small. -/
structure Crt.tiny (c : Crt) : Prop where
  serial : c.serial ≤ 40000
  keyId : c.keyId ≤ 40000
  kalg : 0 ≤ c.kalg ∧ c.kalg ≤ 40000
  kbits : 0 ≤ c.kbits ∧ c.kbits ≤ 40000
  halg : 0 ≤ c.halg ∧ c.halg ≤ 40000
  hbits : 0 ≤ c.hbits ∧ c.hbits ≤ 40000
theorem named_len {s : List UInt8} (h : named s = true) : s.length ≤ 32 := by unfold named at h; simp at h; omega

theorem w_R3use {a b : Int} (ha : 0 ≤ a ∧ a ≤ 40000) (hb : 0 ≤ b ∧ b ≤ 40000) : Fun Tryz.prog 253 [agg [int a, int b]] (agg (rowQ qA1)) := by
 refine fo Tryz.func253 rfl ⟨rfl, rfl⟩ fun M0 w0 => (Tr.seq (Tr.regT (tp rfl (ok_box rfl (VL.le (vl rfl) (agg_cellsP _))) ?_)))
 refine TO.alloc rfl rfl (by decide) rfl z223 zo223 (fun b1 => ?_)
 refine ap ?_
 refine Tr.seq (Tr.rx ?_)
 refine ay ?_
 refine xo rfl (fun _ => kc1 (w_rInt ha) rfl rfl) ?_
 refine ay ?_
 refine xo rfl (fun _ => kc1 (w_rInt hb) rfl rfl) (xo rfl (fun _ => ok_buildSlice (xs := [.tmp 5, .tmp 8]) (rows := [_, _]) rfl rfl Tryz.underlying221 sz223 z223 rfl (by decide) ⟨⟨(by exact rfl), (VL.le (vl rfl) (agg_cellsP _))⟩, ⟨⟨(by exact rfl), (VL.le (vl rfl) (agg_cellsP _))⟩, trivial⟩⟩ (by decide)) ?_)
 refine xo rfl (fun _ => ok_call rfl (w_rList (m := 2) (q := q0) (by omega) (rc1 _ (by omega))) ⟨⟨_, rfl, full_le _ _⟩, trivial⟩) ?_
 refine Cx.ef0 0 rfl rfl (ef_store rfl rfl (vl rfl) (VL.le (vl rfl) (agg_cellsP _)) sz223 rfl (by exact Nat.le_of_ble_eq_true rfl) rfl) ?_
 refine Cx.nil ⟨by kernel_rfl, ?_⟩
 refine FinX.done al1 (Fin.go (Tr.ret (Fin.retX1 rfl (RVal.cell 0 rfl rfl agg223 sz223 rfl (Pr.le_refl _)) ?_)))
 · exact Pr.le_refl _
theorem w_R3body {c : Crt} (hv : validB c = true) (ht : c.tiny) : Fun Tryz.prog 202 [agg (rowCr c)] (agg (rowQ qA2)) := by
 refine fo Tryz.func202 rfl ⟨rfl, rfl⟩ fun M0 w0 => ?_
 obtain ⟨hs0, hs1, hiss, hsub, hnm, hkey, hk0, hk1, hhash, hsk0, hsk1, hsu0, hsu1, hf0, hft, ht1, hp0, hp1, hap⟩ := vf_of hv
 obtain ⟨g1, g2, g3, g4, g5, g6⟩ := ht
 have hnm2 := hnm
 unfold namesB at hnm2
 rw [Bool.and_eq_true, allI_iff, decide_eq_true_eq] at hnm2
 obtain ⟨hall, hlen8⟩ := hnm2
 have hli := named_len hiss
 have hlj := named_len hsub
 refine Tr.seq (Tr.regT (tp rfl (ok_box rfl (VL.le (vl rfl) (agg_cellsP _))) ?_))
 refine TO.alloc rfl rfl (by decide) rfl z223 zo223 (fun b1 => ?_)
 refine ap ?_
 refine ac ?_
 refine ac ?_
 refine Tr.block (Tr.addnil 223 4 (Tr.loopV1 [(1, _), (2, _)] ⟨ke rfl, ke rfl, trivial⟩ (fun k v => [(4, int ((k : Nat) : Int)), (3, andIs v (slice 4 (List.replicate k (rowQ q0))))]) (fun k v => Hp M0 w0 noS ([appRes 223 4 v, cellsRes true b1 223 (([.int .i64 0, .slice none 0 0, .bool false, .slice none 0 0] : List Value).map is)])) (fun k : Nat => k ≤ (c.names).length) (fun k : Nat => (c.names).length - k) 0 (.slice none 0 0) (Nat.zero_le _) ⟨ke rfl, ⟨_, rfl, own_nil rfl⟩, trivial⟩ (fun _ _ h => h) ?_))
 rintro k v hle_k
 refine ac ?_
 refine Tr.cn rfl ?_ ?_ <;> intro h1 q1
 have hk_k : k < (c.names).length := lt_of_dec h1
 obtain ⟨s, hx_k⟩ := at_ hk_k
 have hsn := named_len (name_at (hall k (by omega)) hx_k)
 refine ac ?_
 refine ap ?_
 refine tp rfl (ok_indexAddr rfl Tryz.underlying74 sz9 (vl rfl) (vl rfl) (by omega) (by exact row_at (by assumption))) ?_
 refine tp rfl (kl1 rfl one9 rfl) (tp rfl (kc1 (w_rText (by omega)) rfl rfl) (tp rfl (ok_buildSlice (xs := [.tmp 18]) (rows := [_]) rfl rfl Tryz.underlying221 sz223 z223 rfl (by decide) ⟨⟨(by exact rfl), (VL.le (vl rfl) (agg_cellsP _))⟩, trivial⟩ (by decide)) ?_))
 refine TO.efs 0 rfl rfl (by decide) (ef_append rfl rfl (by decide) rfl Tryz.underlying221 sz223 by223 z223 rfl (by decide) ⟨_, rfl, andIs_le _ _⟩ ⟨_, rfl, full_le _ _⟩ (by simp only [List.length_append, List.length_replicate, List.length_cons, List.length_nil]; unfold maxLen; omega) (by simp only [List.length_append, List.length_replicate, List.length_cons, List.length_nil]; omega) (appR_is (by exact List.Mem.head _) ⟨_, rfl, andIs_is _ _⟩)) (fun v1 => ?_)
 refine ap ?_
 refine wk4 1 2 3 4 rfl ?_
 refine ac ?_
 exact Fin.famV1 (k + 1) v1 (⟨hk_k, by omega⟩) ⟨⟨_, rfl, int_succ k⟩, ⟨_, rfl, own_le (by rw [rep_one])⟩, ke rfl, ke rfl, trivial⟩ (fun _ _ h => h)
 have he_k : k = (c.names).length := by have := ge_of_dec h1; omega
 refine ac ?_
 refine Tr.seq (Tr.rx ?_)
 refine ay ?_
 refine xo rfl (fun _ => kc1 (w_rInt (by omega)) rfl rfl) ?_
 refine ay ?_
 refine xo rfl (fun _ => kc1 (w_rText (by omega)) rfl rfl) ?_
 refine ay ?_
 refine xo rfl (fun _ => kc1 (w_rText (by omega)) rfl rfl) ?_
 refine ay ?_
 refine xo rfl (fun _ => kc1 (w_R3use g3 g4) rfl rfl) ?_
 refine ay ?_
 refine xo rfl (fun _ => kc1 (w_rInt (by omega)) rfl rfl) ?_
 refine ay ?_
 refine xo rfl (fun _ => kc1 (w_R3use g5 g6) rfl rfl) ?_
 refine ay ?_
 refine xo rfl (fun _ => kc1 (w_rInt (by omega)) rfl rfl) ?_
 refine ay ?_
 refine xo rfl (fun _ => kc1 (w_rInt (by omega)) rfl rfl) ?_
 refine ay ?_
 refine xo rfl (fun _ => kc1 (w_rBool) rfl rfl) ?_
 refine ay ?_
 refine xo rfl (fun _ => kc1 (w_rInt (by omega)) rfl rfl) (xm rfl ?_)
 refine xo rfl (fun _ => ok_call rfl (w_rList (m := c.names.length) (q := q0) (by omega) (rc1 _ (by omega))) ⟨⟨_, rfl, Pr.le_trans (andIs_le _ _) (Pr.le_of_eq (by rw [he_k]))⟩, trivial⟩) ?_
 refine xo rfl (fun _ => ok_buildSlice (xs := [.tmp 23, .tmp 26, .tmp 29, .tmp 32, .tmp 35, .tmp 38, .tmp 41, .tmp 44, .tmp 47, .tmp 50, .tmp 52]) (rows := [rowQ qA1, rowQ qA1, rowQ qA1, rowQ qA1, rowQ qA1, rowQ qA1, rowQ qA1, rowQ qA1, rowQ qA1, rowQ qA1, rowQ qA1]) rfl rfl Tryz.underlying221 sz223 z223 rfl (by decide) ⟨⟨(by exact rfl), VL.le (vl rfl) (Pr.le_trans (agg_le (qs := rowQ qA1) ⟨Pr.le_refl _, Pr.le_refl _, Pr.le_refl _, q0_le, trivial⟩) (agg_cellsP _))⟩, ⟨⟨(by exact rfl), VL.le (vl rfl) (Pr.le_trans (agg_le (qs := rowQ qA1) ⟨Pr.le_refl _, Pr.le_refl _, Pr.le_refl _, q0_le, trivial⟩) (agg_cellsP _))⟩, ⟨⟨(by exact rfl), VL.le (vl rfl) (Pr.le_trans (agg_le (qs := rowQ qA1) ⟨Pr.le_refl _, Pr.le_refl _, Pr.le_refl _, q0_le, trivial⟩) (agg_cellsP _))⟩, ⟨⟨(by exact rfl), VL.le (vl rfl) (agg_cellsP _)⟩, ⟨⟨(by exact rfl), VL.le (vl rfl) (Pr.le_trans (agg_le (qs := rowQ qA1) ⟨Pr.le_refl _, Pr.le_refl _, Pr.le_refl _, q0_le, trivial⟩) (agg_cellsP _))⟩, ⟨⟨(by exact rfl), VL.le (vl rfl) (agg_cellsP _)⟩, ⟨⟨(by exact rfl), VL.le (vl rfl) (Pr.le_trans (agg_le (qs := rowQ qA1) ⟨Pr.le_refl _, Pr.le_refl _, Pr.le_refl _, q0_le, trivial⟩) (agg_cellsP _))⟩, ⟨⟨(by exact rfl), VL.le (vl rfl) (Pr.le_trans (agg_le (qs := rowQ qA1) ⟨Pr.le_refl _, Pr.le_refl _, Pr.le_refl _, q0_le, trivial⟩) (agg_cellsP _))⟩, ⟨⟨(by exact rfl), VL.le (vl rfl) (Pr.le_trans (agg_le (qs := rowQ qA1) ⟨Pr.le_refl _, Pr.le_refl _, Pr.le_refl _, q0_le, trivial⟩) (agg_cellsP _))⟩, ⟨⟨(by exact rfl), VL.le (vl rfl) (Pr.le_trans (agg_le (qs := rowQ qA1) ⟨Pr.le_refl _, Pr.le_refl _, Pr.le_refl _, q0_le, trivial⟩) (agg_cellsP _))⟩, ⟨⟨(by exact rfl), VL.le (vl rfl) (agg_cellsP _)⟩, trivial⟩⟩⟩⟩⟩⟩⟩⟩⟩⟩⟩ (by decide)) ?_
 refine xo rfl (fun _ => ok_call rfl (w_rList (m := 11) (q := qA1) (by omega) (rc2 _ (by omega))) ⟨⟨_, rfl, full_le _ _⟩, trivial⟩) ?_
 refine Cx.ef0 1 rfl rfl (ef_store rfl rfl (vl rfl) (VL.le (vl rfl) (agg_cellsP _)) sz223 rfl (by exact Nat.le_of_ble_eq_true rfl) rfl) ?_
 refine Cx.nil ⟨by kernel_rfl, ?_⟩
 refine FinX.done al2 (Fin.go (wk1 2 rfl (Tr.ret (Fin.retX1 rfl (RVal.cell 1 rfl rfl agg223 sz223 rfl (Pr.le_refl _)) ?_))))
 · exact Pr.le_refl _
theorem w_R3Bytes {c : Crt} (hv : validB c = true) (ht : c.tiny) : Fun Tryz.prog 160 [agg (rowCr c)] (tup [bytesE 3285282, anyK .i64]) := by
 refine fo Tryz.func160 rfl ⟨rfl, rfl⟩ fun M0 w0 => ?_
 refine ac ?_
 refine ac ?_
 refine co rfl (kc1 (w_R3Check hv) rfl rfl) ?_
 refine ac ?_
 refine Tr.cn rfl ?_ ?_ <;> intro h1 q1
 exact absurd h1 (by decide)
 refine ac ?_
 refine ac ?_
 refine co rfl (kc1 (w_R3body hv ht) rfl rfl) (co rfl (kc1 (rE2) rfl rfl) ?_)
 refine ac ?_
 refine Tr.ret (Fin.ret2 rfl (OutW.bse _ _) rfl ?_ rfl ?_)
 · exact Pr.le_refl _
 · exact Pr.le_refl _
theorem w_R3Sum {m : Nat} (hm : m ≤ 100000000) : Fun Tryz.prog 161 [bts m] (sumE) := by
 refine fo Tryz.func161 rfl ⟨rfl, rfl⟩ fun M0 w0 => ?_
 have hlr : (List.replicate m u8R).length = m := List.length_replicate
 refine ac ?_
 refine ac ?_
 refine ac ?_
 refine Tr.block (Tr.loopw [(0, _)] ⟨ke rfl, trivial⟩ (fun k : Nat => [(4, int ((k : Nat) : Int)), (3, u32R)]) (fun k : Nat => k ≤ ((List.replicate m u8R).length)) (fun k : Nat => ((List.replicate m u8R).length) - k) 0 (Nat.zero_le _) ⟨ke rfl, ⟨_, rfl, ex_in _ (fact_in (by omega) (Pr.le_refl _))⟩, trivial⟩ ?_)
 rintro k hle_k
 refine ac ?_
 refine co rfl (ok_len rfl Tryz.underlying198 (vl rfl)) ?_
 refine ac ?_
 refine Tr.cn rfl ?_ ?_ <;> intro h1 q1
 have hk_k : k < ((List.replicate m u8R).length) := lt_of_dec h1
 have hkm : k < m := by simpa using hk_k
 refine ac ?_
 refine ac ?_
 refine co rfl (ok_indexAddr rfl Tryz.underlying198 sz5 (vl rfl) (vl rfl) (by omega) (rep_at hkm)) (co rfl (kl1 rfl one5 rfl) (co rfl (ok_convK rfl Tryz.underlying5 Tryz.underlying225 (vl rfl)) (co rfl (ok_bits (by decide) rfl (VL.le (vl rfl) u32_any) (vl rfl)) (co rfl (ok_mulU rfl (vl rfl) (VL.le (vl rfl) (is_anyK _ _))) ?_))))
 refine ac ?_
 refine wk3 0 3 4 rfl ?_
 refine ac ?_
 exact Fin.fam_same (k + 1) ⟨hk_k, by omega⟩ ⟨⟨_, rfl, int_succ k⟩, ke rfl, ke rfl, trivial⟩
 have he_k : k = ((List.replicate m u8R).length) := by have := ge_of_dec h1; omega
 refine ac ?_
 refine ac ?_
 refine co rfl (ok_conv32 rfl Tryz.underlying225 Tryz.underlying3 (vl rfl)) ?_
 refine ac ?_
 refine ac ?_
 · exact Pr.le_refl _
theorem w_R3Copy {c : Crt} (hn : c.names.length ≤ 1000) : Fun Tryz.prog 158 [agg (rowCr c)] (agg (rowCr c)) := by
 refine fo Tryz.func158 rfl ⟨rfl, rfl⟩ fun M0 w0 => (Tr.seq (Tr.regT ?_))
 refine TO.boxm rfl rfl (by decide) rfl (VL.le (vl rfl) (agg_cellsP _)) (fun b1 => ?_)
 refine TO.alloc rfl rfl (by decide) rfl z131 zo131 (fun b2 => ?_)
 refine ap ?_
 refine ap ?_
 refine TO.pad ?_
 refine TO.efs 0 rfl rfl (by decide) (ef_append rfl rfl (by decide) rfl Tryz.underlying74 sz9 by9 z9 rfl (by decide) ⟨_, rfl, full_le _ _⟩ (vl rfl) (by simp only [List.length_append, List.length_map, List.length_nil]; unfold maxLen; omega) (by simp only [List.length_append, List.length_map, List.length_nil]; omega) (appR_full (by exact List.Mem.head _) (vl rfl))) (fun v1 => ?_)
 refine ap ?_
 refine ap ?_
 refine Tr.drop 2 (Tr.ret (Fin.retX1 rfl (RVal.cell 1 rfl rfl agg131 sz131 rfl (Pr.le_refl _)) ?_))
 · exact agg_le ⟨Pr.le_refl _, Pr.le_refl _, Pr.le_refl _, Pr.le_refl _, Pr.le_refl _, Pr.le_refl _, Pr.le_refl _, Pr.le_refl _, Pr.le_refl _, Pr.le_refl _, Pr.le_refl _, Pr.le_refl _, Pr.le_trans (andIs_le _ _) (Pr.le_of_eq (by simp)), Pr.le_refl _, Pr.le_refl _, trivial⟩
abbrev sealed (c : Crt) (key s : Int) : Crt := ⟨c.serial, c.issuer, c.subject, c.kalg, c.kbits, c.keyId, c.halg, c.hbits, c.from_, c.to_, c.auth, c.path, c.names, key, s⟩

theorem w_R3Sign {c : Crt} {key : Int} (hv : validB (sealed c 0 0) = true) (ht : (sealed c 0 0).tiny) (hk : 0 ≤ key ∧ key ≤ 2147483648) : Fun Tryz.prog 111 [agg (rowCr c), int key] (Cp.ex fun s : Int => fact (0 ≤ s ∧ s < 4294967296) (tup [agg (rowCr (sealed c key s)), int 0])) := by
 refine fo Tryz.func111 rfl ⟨rfl, rfl⟩ fun M0 w0 => ?_
 have hnn : c.names.length ≤ 1000 := by have := (vf_of hv).nm; unfold namesB at this; simp at this; omega
 refine Tr.seq (Tr.regT ?_)
 refine TO.boxm rfl rfl (by decide) rfl (VL.le (vl rfl) (agg_cellsP _)) (fun b1 => ?_)
 refine TO.alloc rfl rfl (by decide) rfl z131 zo131 (fun b2 => ?_)
 refine ap ?_
 refine ap ?_
 refine tp rfl (kc1 (w_R3Copy (c := c) hnn) rfl rfl) ?_
 refine ap ?_
 refine ap ?_
 refine ac ?_
 refine co rfl (kc1 (w_R3Check (c := sealed c 0 0) hv) rfl rfl) ?_
 refine ac ?_
 refine Ch.cs 15 rfl ?_ ?_ <;> intro h1 q1
 exact absurd h1 (by decide)
 refine ac ?_
 refine Ch.cs 19 rfl ?_ ?_ <;> intro h2 q2
 exfalso; have := q2; omega
 refine ac ?_
 refine wk4 1 2 4 22 rfl ?_
 refine Tr.cn rfl ?_ ?_ <;> intro h3 q3
 exfalso; have := q3; omega
 refine ac ?_
 refine ac ?_
 refine co rfl (kc1 (w_R3Bytes (c := sealed c 0 0) hv ht) rfl rfl) ?_
 refine ac ?_
 refine ap ?_
 refine tp rfl (kc1 (Fun.bytesE fun m hm => w_R3Sum (by omega)) rfl rfl) ?_
 refine TO.ex 31 rfl (fun z31 => TO.fact 31 rfl fun hz31 => ?_)
 refine ap ?_
 refine wk2 2 4 rfl ?_
 refine ap ?_
 refine Tr.drop 1 (Tr.ret (Fin.retX2 rfl (RVal.cell 0 rfl rfl agg131 sz131 rfl (Pr.le_refl _)) (RVal.tmp rfl (Pr.le_refl _)) ?_))
 · exact ex_in z31 (fact_in hz31 (Pr.le_refl _))
end Go.Proofs.YtppeeogffbpcbaaGreat
namespace Go.Proofs.YtppeeogffbpcbaaGreat
open Go Go.RowKit Cp

abbrev leafC (name : List UInt8) (a b id to key s : Int) : Crt := ⟨id, [114, 111, 111, 116], name, a, b, id, 3, 0, 0, to, false, 0, [name], key, s⟩
abbrev leafI (name : List UInt8) (a b id to key s : Int) : Idn := ⟨a, b, id, [leafC name a b id to key s]⟩
abbrev leafE (name : List UInt8) (a b id to key : Int) : Pr := Cp.ex fun s : Int => fact (0 ≤ s ∧ s < 4294967296) (agg (rowId (leafI name a b id to key s)))
theorem w_RSA   : Fun Tryz.prog 66 [] (agg [int 5, int 2048]) := by
 refine fo Tryz.func66 rfl ⟨rfl, rfl⟩ fun M0 w0 => (Tr.seq (Tr.regT ?_))
 refine TO.alloc rfl rfl (by decide) rfl z24 zo24 (fun b1 => ?_)
 refine ap ?_
 refine ap ?_
 refine Tr.ret (Fin.retX1 rfl (RVal.cell 0 rfl rfl agg24 sz24 rfl (Pr.le_refl _)) ?_)
 · exact Pr.le_refl _
theorem w_EC   : Fun Tryz.prog 73 [] (agg [int 7, int 256]) := by
 refine fo Tryz.func73 rfl ⟨rfl, rfl⟩ fun M0 w0 => (Tr.seq (Tr.regT ?_))
 refine TO.alloc rfl rfl (by decide) rfl z24 zo24 (fun b1 => ?_)
 refine ap ?_
 refine ap ?_
 refine Tr.ret (Fin.retX1 rfl (RVal.cell 0 rfl rfl agg24 sz24 rfl (Pr.le_refl _)) ?_)
 · exact Pr.le_refl _
theorem w_Leaf {name : List UInt8} {a b id to key : Int} (hv : validB (leafC name a b id to 0 0) = true) (ht : (leafC name a b id to 0 0).tiny) (hk : 0 ≤ key ∧ key ≤ 2147483648) : Fun Tryz.prog 65 [str name, agg [int a, int b], int id, int key, int to] (leafE name a b id to key) := by
 refine fo Tryz.func65 rfl ⟨rfl, rfl⟩ fun M0 w0 => (Tr.seq (Tr.regT (tp rfl (ok_box rfl (VL.le (vl rfl) (agg_cellsP _))) ?_)))
 refine TO.alloc rfl rfl (by decide) rfl z27 zo27 (fun b1 => ?_)
 refine ap ?_
 refine ap ?_
 refine tp rfl (ok_build (rows := [(0, [_]), (1, [_]), (2, [_]), (3, _), (4, [_]), (5, _), (7, [_]), (10, [_])]) rfl bl131 zo131 ⟨⟨rfl, (VL.le (vl rfl) (one_cellsP _))⟩, ⟨⟨rfl, (VL.le (vl rfl) (one_cellsP _))⟩, ⟨⟨rfl, (VL.le (vl rfl) (one_cellsP _))⟩, ⟨⟨rfl, (VL.le (vl rfl) (agg_cellsP _))⟩, ⟨⟨rfl, (VL.le (vl rfl) (one_cellsP _))⟩, ⟨⟨rfl, (VL.le (vl rfl) (agg_cellsP _))⟩, ⟨⟨rfl, (VL.le (vl rfl) (one_cellsP _))⟩, ⟨⟨rfl, ⟨_, rfl, Pr.le_trans (full_le _ _) (one_cellsP _)⟩⟩, trivial⟩⟩⟩⟩⟩⟩⟩⟩ rfl) (TO.re 20 (agg (rowCr (leafC name a b id to 0 0))) rfl (Pr.le_of_eq rfl) ?_)
 refine TO.alloc rfl rfl (by decide) rfl z131 zo131 (fun b2 => ?_)
 refine ap ?_
 refine wk5 2 3 6 10 11 rfl ?_
 refine ap ?_
 refine tp rfl (kc2 (w_R3Sign (c := leafC name a b id to 0 0) hv ht hk) rfl rfl rfl) ?_
 refine TO.ex 24 rfl (fun z24 => TO.fact 24 rfl fun hz24 => ?_)
 refine ap ?_
 refine ap ?_
 refine tp rfl (ok_build (rows := [(0, _), (1, [_]), (2, [_])]) rfl bl27 zo27 ⟨⟨rfl, (VL.le (vl rfl) (agg_cellsP _))⟩, ⟨⟨rfl, (VL.le (vl rfl) (one_cellsP _))⟩, ⟨⟨rfl, ⟨_, rfl, Pr.le_trans (full_le _ _) (one_cellsP _)⟩⟩, trivial⟩⟩⟩ rfl) ?_
 refine ap ?_
 refine Tr.drop 0 (wk1 10 rfl (Tr.ret (Fin.retX1 rfl (RVal.cell 0 rfl rfl agg27 sz27 rfl (Pr.le_refl _)) ?_)))
 · exact ex_in z24 (fact_in hz24 (Pr.le_refl _))
/-- Some text of a list. -/
def wordOf (s : DS) (l : List (List UInt8)) : List UInt8 := (l[(s.val l.length).toNat]?).getD []

theorem w_DWordE {b : Nat} {s : DS} {l : List (List UInt8)} (hl : l ≠ []) (hl2 : l.length ≤ 1000000000) : FunM Tryz.prog 68 [ptr b 0, txts l] (str (wordOf s l)) (diceS b s) (fun _ => diceS b s.adv) := by
 refine FunM.of Tryz.func68 rfl rfl (by exact Nat.le_of_ble_eq_true rfl) fun M0 w0 S rs M1 w1 => ?_
 have hl0 : 1 ≤ (l.length : Int) := by have := List.length_pos_iff.2 hl; omega
 have hv := s.val_in hl0
 obtain ⟨x, hx⟩ := at_ (l := l) (k := (s.val l.length).toNat) (by omega)
 refine ac ?_
 refine ap ?_
 refine TO.efc 0 rfl rfl (by decide) (ef_callc rfl rfl (by decide) rfl (w_DNext (by omega) (by omega)) ⟨ke rfl, ke rfl, trivial⟩) (tp rfl (ok_indexAddr rfl Tryz.underlying74 sz9 (vl rfl) (vl rfl) (by omega) (row_atI hx)) ?_)
 refine ap ?_
 refine Tr.ret (Fin.retY1 [] rfl (RVal.tmp rfl (Pr.le_refl _)) ?_ (fun _ _ _ _ => rfl))
 · refine Pr.le_of_eq ?_; unfold wordOf; rw [hx]; rfl
end Go.Proofs.YtppeeogffbpcbaaGreat
namespace Go.Proofs.YtppeeogffbpcbaaGreat
open Go Go.RowKit Cp

end Go.Proofs.YtppeeogffbpcbaaGreat
namespace Go.Proofs.YtppeeogffbpcbaaGreat
open Go Go.RowKit Cp

def nameL : List (List UInt8) := [[97, 112, 112], [100, 98], [119, 101, 98]]
def optS : List (List Int) := [[10, 8, 2], [8, 2], [2, 10, 8, 3]]
def sOpt (i : Int) : List Int := (optS[i.toNat]?).getD []
theorem sopt_at {i : Int} (h : 0 ≤ i ∧ i < 3) : (optS.map fun l => [ints l])[i.toNat]? = some [ints (sOpt i)] := by
  have hl : i.toNat < optS.length := by show i.toNat < 3; omega
  unfold sOpt
  rw [List.getElem?_map, List.getElem?_eq_getElem hl]; rfl
theorem sopt_mem {i : Int} (h : 0 ≤ i ∧ i < 3) : sOpt i ∈ optS := by
  have hl : i.toNat < optS.length := by show i.toNat < 3; omega
  unfold sOpt
  rw [List.getElem?_eq_getElem hl]; exact List.getElem_mem hl
/-- What such an endpoint is. -/
structure SndE (i : Nat) (e : Ept) : Prop where
  name : nameL[i]? = some e.name
  least : e.least = 1
  most : e.most = 3 ∨ e.most = 4
  suites : e.suites ∈ optS ∨ ∃ l ∈ optS, e.suites = 14 :: l
  ids : ∃ s : Int, (0 ≤ s ∧ s < 4294967296) ∧ e.ids = [leafI e.name 5 2048 (100 + (i : Nat)) 901 1 s]
  anchors : e.anchors = [1]
  hashes : e.hashes = [2, 3]
def SndL (es : List Ept) : Prop := ∀ (i : Nat) e, es[i]? = some e → SndE i e
theorem snd_snoc {es : List Ept} {e : Ept} (h : SndL es) (he : SndE es.length e) : SndL (es ++ [e]) := by
  intro i x hx
  rcases Nat.lt_or_ge i es.length with hi | hi
  · rw [List.getElem?_append_left hi] at hx; exact h i x hx
  · rcases Nat.eq_or_lt_of_le hi with hi | hi
    · subst hi; rw [List.getElem?_append_right (Nat.le_refl _), Nat.sub_self] at hx; simp at hx; subst hx; exact he
    · rw [List.getElem?_eq_none (by simp; omega)] at hx; cases hx
theorem leaf_ok {nm : List UInt8} {k : Nat} (h : nameL[k]? = some nm) {s : Int} (hs : 0 ≤ s ∧ s < 4294967296) {key : Int} (hk : 0 ≤ key ∧ key ≤ 2) : validB (leafC nm 5 2048 (100 + (k : Nat)) 901 key s) = true := by
  have hlt : k < 3 := lt_of_at h
  have hn : named nm = true := by
    have hm := List.mem_of_getElem? h
    revert hm; unfold nameL; intro hm; simp at hm
    rcases hm with rfl | rfl | rfl <;> decide
  refine of_vf ⟨?_, ?_, by show named [114, 111, 111, 116] = true; decide, hn, ?_, by show ofB 5 2048 2 = true; decide +kernel, ?_, ?_, by show ofB 3 0 1 = true; decide +kernel, hk.1, ?_, hs.1, hs.2, by show (0 : Int) ≤ 0; omega, by show (0 : Int) ≤ 901; omega, by show (901 : Int) ≤ 40000; omega, by show (0 : Int) ≤ 0; omega, by show (0 : Int) ≤ 8; omega, .inr rfl⟩
  · show 0 ≤ (100 : Int) + (k : Nat); omega
  · show (100 : Int) + (k : Nat) ≤ _; omega
  · show namesB [nm] = true
    unfold namesB; rw [Bool.and_eq_true]; refine ⟨allI_iff.2 fun j hj => ?_, by simp⟩
    have : j = 0 := by simp at hj; omega
    subst this; unfold nameAt; simp [hn]
  · show 0 ≤ (100 : Int) + (k : Nat); omega
  · show (100 : Int) + (k : Nat) ≤ _; omega
  · show key ≤ _; omega
theorem leaf_tiny {nm : List UInt8} {k : Nat} (h : k < 3) : (leafC nm 5 2048 (100 + (k : Nat)) 901 0 0).tiny :=
  ⟨by show (100 : Int) + (k : Nat) ≤ 40000; omega, by show (100 : Int) + (k : Nat) ≤ 40000; omega, ⟨by show (0 : Int) ≤ 5; omega, by show (5 : Int) ≤ 40000; omega⟩, ⟨by show (0 : Int) ≤ 2048; omega, by show (2048 : Int) ≤ 40000; omega⟩, ⟨by show (0 : Int) ≤ 3; omega, by show (3 : Int) ≤ 40000; omega⟩, ⟨by show (0 : Int) ≤ 0; omega, by show (0 : Int) ≤ 40000; omega⟩⟩
theorem take_get {β : Type} {l : List β} {n k : Nat} {x : β} (h : (l.take n)[k]? = some x) : l[k]? = some x := by
  have hlt := lt_of_at h
  rw [List.length_take] at hlt
  rw [List.getElem?_take, if_pos (by omega)] at h; exact h
theorem sopt_len (i : Int) : (sOpt i).length ≤ 4 := by
  unfold sOpt
  cases h : optS[i.toNat]? with
  | none => show 0 ≤ 4; omega
  | some l =>
    have hm := List.mem_of_getElem? h
    show l.length ≤ 4
    unfold optS at hm; simp at hm
    rcases hm with rfl | rfl | rfl <;> simp
theorem of_334 (s : DS) : s.of [3, 3, 4] = 3 ∨ s.of [3, 3, 4] = 4 := by have := s.of_mem (l := [3, 3, 4]) (by simp); simp at this; exact this
end Go.Proofs.YtppeeogffbpcbaaGreat
namespace Go.Proofs.YtppeeogffbpcbaaGreat
open Go Go.RowKit Cp

abbrev sndS : List (List Int) := optS ++ optS.map (14 :: ·)
theorem sndE_suites {i : Nat} {e : Ept} (h : SndE i e) : e.suites ∈ sndS := by
  rcases h.suites with h | ⟨l, h, h2⟩
  · exact List.mem_append_left _ h
  · rw [h2]; exact List.mem_append_right _ (List.mem_map_of_mem h)
theorem sndS_ok : ∀ l ∈ sndS, suitesB l = true ∧ l.length ≤ 5 := by decide +kernel
theorem name_ok : ∀ n ∈ nameL, wordB n = true ∧ n.length ≤ 3 := by decide +kernel
theorem hash_ok : [2, 3].all hashB = true := by decide +kernel
theorem of_rsa2 : ofB 5 2048 2 = true := by decide +kernel
theorem leaf_idB {nm : List UInt8} {k : Nat} {id : Int} (h : nameL[k]? = some nm) (hid : id = 100 + (k : Nat)) {s : Int} (hs : 0 ≤ s ∧ s < 4294967296) : idB (leafI nm 5 2048 id 901 1 s) = true := by
  subst hid
  have hk : k < 3 := lt_of_at h
  have hv := leaf_ok h hs (key := 1) (by omega)
  have hk2 : keyB (100 + (k : Nat)) = true := by unfold keyB; simp; omega
  unfold idB showsB; simp only [of_rsa2, hk2, List.all_cons, List.all_nil, hv]; simp
theorem sndE_ok {i : Nat} {e : Ept} (h : SndE i e) : EptOk e := by
  have hn := name_ok _ (List.mem_of_getElem? h.name)
  have hs := sndS_ok _ (sndE_suites h)
  obtain ⟨s, hs1, hs2⟩ := h.ids
  have hm := h.most; have hl := h.least
  refine ⟨hn.1, by omega, by omega, by omega, hs.1, by rw [hs2]; simp, by rw [h.anchors]; simp, by rw [h.anchors]; decide, by rw [h.hashes]; decide, ?_, by rw [h.anchors]; decide, by rw [h.hashes]; exact hash_ok⟩
  rw [hs2]; simp only [List.all_cons, List.all_nil, leaf_idB h.name rfl hs1, Bool.and_self]
theorem sndE_fits {i : Nat} {e : Ept} (h : SndE i e) : e.fits := by
  have hn := name_ok _ (List.mem_of_getElem? h.name)
  obtain ⟨s, hs1, hs2⟩ := h.ids
  refine ⟨by unfold maxLen; omega, fun x hx c hc => ?_⟩
  rw [hs2] at hx; simp at hx; subst hx; simp at hc; subst hc
  exact ⟨by show 4 ≤ maxLen; unfold maxLen; omega, by show e.name.length ≤ maxLen; unfold maxLen; omega, fun n hn2 => by simp at hn2; subst hn2; unfold maxLen; omega⟩
theorem sndE_small {i : Nat} {e : Ept} (h : SndE i e) : e.small := by
  have hs := sndS_ok _ (sndE_suites h)
  obtain ⟨s, hs1, hs2⟩ := h.ids
  refine ⟨by omega, by rw [h.anchors]; simp, by rw [h.hashes]; simp, by rw [hs2]; simp, fun x hx => ?_⟩
  rw [hs2] at hx; simp at hx; subst hx
  exact ⟨by simp, fun c hc => by simp at hc; subst hc; simp⟩
theorem id0_fits : zeroId.fits := fun c hc => by cases hc
end Go.Proofs.YtppeeogffbpcbaaGreat
namespace Go.Proofs.YtppeeogffbpcbaaGreat
open Go Go.RowKit Cp

theorem abrow {v : Int} (h : 0 ≤ v ∧ v < 2) : ([[int 7, int 256], [int 5, int 2048]] : List (List Pr))[v.toNat]? = some [int (if v = 0 then 7 else 5), int (if v = 0 then 256 else 2048)] := by
  have : v = 0 ∨ v = 1 := by omega
  rcases this with rfl | rfl <;> rfl
theorem abok (v : Int) : ((if v = 0 then 7 else 5 : Int) = 5 ∧ (if v = 0 then 256 else 2048 : Int) = 2048) ∨ ((if v = 0 then 7 else 5 : Int) = 7 ∧ (if v = 0 then 256 else 2048 : Int) = 256) := by split <;> simp
theorem leafV {nm : List UInt8} (h : nm ∈ nameL) {a b id key s : Int} (hab : (a = 5 ∧ b = 2048) ∨ (a = 7 ∧ b = 256)) (hid : 0 ≤ id ∧ id ≤ 1000) (hs : 0 ≤ s ∧ s < 4294967296) (hk : 0 ≤ key ∧ key ≤ 2) : validB (leafC nm a b id 901 key s) = true := by
  have hn : named nm = true := by
    revert h; unfold nameL; intro hm; simp at hm
    rcases hm with rfl | rfl | rfl <;> decide
  have hof : ofB a b 2 = true := by rcases hab with ⟨rfl, rfl⟩ | ⟨rfl, rfl⟩ <;> decide +kernel
  refine of_vf ⟨?_, ?_, by show named [114, 111, 111, 116] = true; decide, hn, ?_, hof, ?_, ?_, by show ofB 3 0 1 = true; decide +kernel, hk.1, ?_, hs.1, hs.2, by show (0 : Int) ≤ 0; omega, by show (0 : Int) ≤ 901; omega, by show (901 : Int) ≤ 40000; omega, by show (0 : Int) ≤ 0; omega, by show (0 : Int) ≤ 8; omega, .inr rfl⟩
  · show 0 ≤ id; omega
  · show id ≤ _; omega
  · show namesB [nm] = true
    unfold namesB; rw [Bool.and_eq_true]; refine ⟨allI_iff.2 fun j hj => ?_, by simp⟩
    have : j = 0 := by simp at hj; omega
    subst this; unfold nameAt; simp [hn]
  · show 0 ≤ id; omega
  · show id ≤ _; omega
  · show key ≤ _; omega
theorem leafT {nm : List UInt8} {a b id : Int} (hab : (a = 5 ∧ b = 2048) ∨ (a = 7 ∧ b = 256)) (hid : 0 ≤ id ∧ id ≤ 1000) : (leafC nm a b id 901 0 0).tiny :=
  ⟨by show id ≤ 40000; omega, by show id ≤ 40000; omega, ⟨by show (0 : Int) ≤ a; omega, by show a ≤ 40000; omega⟩, ⟨by show (0 : Int) ≤ b; omega, by show b ≤ 40000; omega⟩, ⟨by show (0 : Int) ≤ 3; omega, by show (3 : Int) ≤ 40000; omega⟩, ⟨by show (0 : Int) ≤ 0; omega, by show (0 : Int) ≤ 40000; omega⟩⟩
/-- A change of one of these endpoints. -/
structure AnyP (es : List Ept) (c : Chg) : Prop where
  lo : 0 ≤ c.endpoint
  hi : c.endpoint < (es.length : Nat)
  kind : 1 ≤ c.kind ∧ c.kind ≤ 12
  fits : c.idn.fits
  small : c.idn.small
abbrev sumP (nm : List UInt8) (a b id to key : Int) : Pr := Cp.ex fun s : Int => fact (0 ≤ s ∧ s < 4294967296) (certs [leafC nm a b id to key s])
theorem leaf_cells {nm : List UInt8} {a b id to key : Int} : (leafE nm a b id to key).le (cellsP [int a, int b, int id, sumP nm a b id to key]) := by
  intro M w v ⟨s, hs, hv⟩
  exact (agg_cellsP [int a, int b, int id, sumP nm a b id to key]) M w v (agg_le (ps := rowId (leafI nm a b id to key s)) (qs := [int a, int b, int id, sumP nm a b id to key]) ⟨Pr.le_refl _, Pr.le_refl _, Pr.le_refl _, fun M w v h => ⟨s, hs, h⟩, trivial⟩ M w v hv)
theorem hl_exL {β : Type} {f : β → Pr} {M : Av} {w : World} : ∀ {ps : List Pr} {cs : List Value}, HL M w (ps ++ [Cp.ex f]) cs → ∃ s, HL M w (ps ++ [f s]) cs
  | [], [c], h => by obtain ⟨⟨s, hs⟩, h2⟩ := h; exact ⟨s, hs, h2⟩
  | [], [], h => h.elim
  | [], _ :: _ :: _, h => h.2.elim
  | p :: ps, [], h => h.elim
  | p :: ps, c :: cs, h => by obtain ⟨s, hs⟩ := hl_exL (ps := ps) (cs := cs) h.2; exact ⟨s, h.1, hs⟩
theorem hl_factL {φ : Prop} {p0 : Pr} {M : Av} {w : World} : ∀ {ps : List Pr} {cs : List Value}, HL M w (ps ++ [fact φ p0]) cs → HL M w (ps ++ [p0]) cs
  | [], [c], h => ⟨h.1.2, h.2⟩
  | [], [], h => h.elim
  | [], _ :: _ :: _, h => h.2.elim
  | p :: ps, [], h => h.elim
  | p :: ps, c :: cs, h => ⟨h.1, hl_factL (ps := ps) (cs := cs) h.2⟩
theorem any_leaf {es : List Ept} {p0 p1 p2 p3 : Int} {nm : List UInt8} {a b id key : Int} (h : ∀ s : Int, AnyP es ⟨p0, p1, p2, p3, leafI nm a b id 901 key s⟩) : (agg [int p0, int p1, int p2, int p3, int a, int b, int id, sumP nm a b id 901 key]).le (Cp.ex fun c : Chg => fact (AnyP es c) (agg (rowChg c))) := by
  intro M w v ⟨cs, h1, h2, h3⟩
  obtain ⟨s, h4⟩ := hl_exL (ps := [int p0, int p1, int p2, int p3, int a, int b, int id]) h3
  exact ⟨⟨p0, p1, p2, p3, leafI nm a b id 901 key s⟩, h s, cs, h1, h2, hl_factL (ps := [int p0, int p1, int p2, int p3, int a, int b, int id]) h4⟩
theorem leafF {nm : List UInt8} (h : nm ∈ nameL) {a b id key s : Int} : (leafI nm a b id 901 key s).fits ∧ (leafI nm a b id 901 key s).small := by
  have hn := (name_ok _ h).2
  refine ⟨fun c hc => ?_, ⟨by simp, fun c hc => by simp at hc; subst hc; simp⟩⟩
  simp at hc; subst hc
  exact ⟨by show 4 ≤ maxLen; unfold maxLen; omega, by show nm.length ≤ maxLen; unfold maxLen; omega, fun n hn2 => by simp at hn2; subst hn2; unfold maxLen; omega⟩

theorem w_Any {b : Nat} {s : DS} {es : List Ept} {p1 p2 : Pr} (hs : SndL es) (hl : 1 ≤ es.length ∧ es.length ≤ 3) : FunM Tryz.prog 16 [ptr b 0, agg [slice 9 (es.map rowEp), p1, p2]] (Cp.ex fun c : Chg => fact (AnyP es c) (agg (rowChg c))) (diceS b s) (fun _ => diceEx 101 b) := by
 refine FunM.of Tryz.func16 rfl rfl (by exact Nat.le_of_ble_eq_true rfl) fun M0 w0 S rs M1 w1 => ?_
 have hv := s.val_in (n := es.length) (by omega)
 obtain ⟨e, he⟩ := at_ (l := es) (k := (s.val es.length).toNat) (by omega)
 have hse := hs _ e he
 have hnm := List.mem_of_getElem? hse.name
 have hsl := (sndS_ok _ (sndE_suites hse)).2
 obtain ⟨y0, hy0⟩ : ∃ y0, e.ids = [y0] := by obtain ⟨s_, _, h_⟩ := hse.ids; exact ⟨_, h_⟩
 have hil : e.ids.length = 1 := by rw [hy0]; rfl
 have hv2 := s.adv.val_in (n := 12) (by omega)
 have hv3 := s.adv.adv.val_in (n := 16) (by omega)
 have hv4 := s.adv.adv.val_in (n := 4) (by omega)
 have hv5 := s.adv.adv.val_in (n := 3) (by omega)
 have hv6 := s.adv.adv.adv.val_in (n := 2) (by omega)
 have hv7 := s.adv.adv.adv.adv.val_in (n := 3) (by omega)
 have hv8 := s.adv.adv.adv.adv.adv.val_in (n := 2) (by omega)
 refine Tr.seq (Tr.regT (tp rfl (ok_box rfl (VL.le (vl rfl) (agg_cellsP _))) ?_))
 refine TO.alloc rfl rfl (by decide) rfl z29 zo29 (fun b1 => ?_)
 refine ao ?_
 refine ao ?_
 refine TO.efc 1 rfl rfl (by decide) (ef_callc rfl rfl (by decide) rfl (w_DNext (by omega) (by omega)) ⟨ke rfl, ke rfl, trivial⟩) ?_
 refine ao ?_
 refine ao ?_
 refine tp rfl (ok_indexAddr rfl Tryz.underlying37 sz32 (vl rfl) (vl rfl) (by omega) (row_atI he)) (tp rfl (ok_loadA rfl agg32 sz32 (vl rfl) rfl rfl) ?_)
 refine TO.alloc rfl rfl (by decide) rfl z32 zo32 (fun b2 => ?_)
 refine sf 0 6 ⟨rfl, rfl, rfl⟩ rfl rfl rfl rfl ?_
 refine ao ?_
 refine wk4 0 4 5 6 rfl ?_
 refine ao ?_
 refine TO.efc 1 rfl rfl (by decide) (ef_callc rfl rfl (by decide) rfl (w_DNext (by omega) (by omega)) ⟨ke rfl, ke rfl, trivial⟩) ?_
 refine ao ?_
 refine TO.alloc rfl rfl (by decide) rfl z29 zo29 (fun b3 => ?_)
 refine TO.store_all 0 rfl rfl rfl (vl rfl) (VL.le (vl rfl) (agg_cellsP _)) rfl sz29 rfl rfl ?_
 refine ao ?_
 refine ac ?_
 refine ac ?_
 refine wk6 0 4 6 7 24 25 rfl ?_
 refine Tr.cn rfl ?_ ?_ <;> intro h1 q1
 refine Tr.rx (xm rfl (Cx.ef 2 rfl rfl (by decide) (ef_callc rfl rfl (by decide) rfl (w_DNext (by omega) (by omega)) ⟨ke rfl, ke rfl, trivial⟩) ?_))
 refine ay ?_
 refine Cx.ef 2 rfl rfl (by decide) (ef_callc rfl rfl (by decide) rfl (w_DNext (by omega) (by omega)) ⟨ke rfl, ke rfl, trivial⟩) ?_
 refine ay ?_
 refine Cx.nil ⟨by kernel_rfl, ?_⟩
 refine FinX.done al4 ?_
 refine ac ?_
 refine wk2 4 7 rfl ?_
 refine ao ?_
 refine TO.store_all 1 rfl rfl rfl (vl rfl) (VL.le (vl rfl) (agg_cellsP _)) rfl sz29 rfl rfl ?_
 refine ao ?_
 refine Tr.drop 0 (Tr.ret (Fin.closeD 1 _ rfl rfl (Fin.retY1 [_] rfl (RVal.cell 0 rfl rfl agg29 sz29 rfl (Pr.le_refl _)) ?_ (fun _ _ _ _ => rfl))))
 · (refine ex_in ⟨_, _, _, _, zeroId⟩ (fact_in ?_ (agg_le ⟨Pr.le_refl _, Pr.le_refl _, Pr.le_refl _, Pr.le_refl _, Pr.le_refl _, Pr.le_refl _, Pr.le_refl _, nil_slice 15, trivial⟩)); exact ⟨hv.1, hv.2, ⟨by show 1 ≤ 1 + _; omega, by show 1 + _ ≤ 12; omega⟩, id0_fits, id0_small⟩)
 refine ac ?_
 refine Tr.cn rfl ?_ ?_ <;> intro h2 q2
 refine ao ?_
 refine TO.efc 2 rfl rfl (by decide) (ef_callc rfl rfl (by decide) rfl (w_DNext (by omega) (by omega)) ⟨ke rfl, ke rfl, trivial⟩) ?_
 refine ao ?_
 refine TO.ef0 0 rfl rfl (ef_store rfl rfl (vl rfl) (VL.le (vl rfl) (one_cellsP _)) sz3 rfl (by exact Nat.le_of_ble_eq_true rfl) rfl) ?_
 refine ao ?_
 refine ao ?_
 refine TO.cases 48 rfl (fun h3 => ?_) (fun h3 => ?_)
 have q3 := Nrm.nrm h3
 refine TO.opG rfl rfl rfl h3 rfl (by decide) (ok_move rfl (vl rfl)) (TO.efcG 2 rfl rfl rfl h3 rfl rfl (by decide) (ef_callc rfl rfl (by decide) rfl (w_DOne (by omega) (by omega)) ⟨ke rfl, ke rfl, trivial⟩) (TO.opG rfl rfl rfl h3 rfl (by decide) (ok_not rfl (vl rfl)) ?_))
 refine ao ?_
 refine wk5 0 4 6 7 52 rfl ?_
 refine Tr.cn rfl ?_ ?_ <;> intro h4 q4
 have hv9 := s.adv.adv.adv.adv.val_in (n := e.suites.length) (by omega)
 obtain ⟨su, hsu⟩ := at_ (l := e.suites) (k := (s.adv.adv.adv.adv.val e.suites.length).toNat) (by omega)
 refine Tr.rx ?_
 refine ay ?_
 refine Cx.ef 2 rfl rfl (by decide) (ef_callc rfl rfl (by decide) rfl (w_DNext (by omega) (by omega)) ⟨ke rfl, ke rfl, trivial⟩) (xo rfl (fun _ => ok_indexAddr rfl Tryz.underlying22 sz3 (vl rfl) (vl rfl) (by omega) (row_atI (f := fun n : Int => [int n]) hsu)) ?_)
 refine ay ?_
 refine Cx.nil ⟨by kernel_rfl, ?_⟩
 refine FinX.done al4 ?_
 refine ac ?_
 refine wk2 4 7 rfl ?_
 refine ao ?_
 refine TO.store_all 1 rfl rfl rfl (vl rfl) (VL.le (vl rfl) (agg_cellsP _)) rfl sz29 rfl rfl ?_
 refine ao ?_
 refine Tr.drop 0 (Tr.ret (Fin.closeD 1 _ rfl rfl (Fin.retY1 [_] rfl (RVal.cell 0 rfl rfl agg29 sz29 rfl (Pr.le_refl _)) ?_ (fun _ _ _ _ => rfl))))
 · (refine ex_in ⟨_, _, _, _, zeroId⟩ (fact_in ?_ (agg_le ⟨Pr.le_refl _, Pr.le_refl _, Pr.le_refl _, Pr.le_refl _, Pr.le_refl _, Pr.le_refl _, Pr.le_refl _, nil_slice 15, trivial⟩)); exact ⟨hv.1, hv.2, ⟨by show 1 ≤ 1 + _; omega, by show 1 + _ ≤ 12; omega⟩, id0_fits, id0_small⟩)
 refine ac ?_
 refine ao ?_
 refine TO.store_all 1 rfl rfl rfl (vl rfl) (VL.le (vl rfl) (agg_cellsP _)) rfl sz29 rfl rfl ?_
 refine ao ?_
 refine Tr.drop 0 (Tr.ret (Fin.closeD 1 _ rfl rfl (Fin.retY1 [_] rfl (RVal.cell 0 rfl rfl agg29 sz29 rfl (Pr.le_refl _)) ?_ (fun _ _ _ _ => rfl))))
 · (refine ex_in ⟨_, _, _, _, zeroId⟩ (fact_in ?_ (agg_le ⟨Pr.le_refl _, Pr.le_refl _, Pr.le_refl _, Pr.le_refl _, Pr.le_refl _, Pr.le_refl _, Pr.le_refl _, nil_slice 15, trivial⟩)); exact ⟨hv.1, hv.2, ⟨by show 1 ≤ 1 + _; omega, by show 1 + _ ≤ 12; omega⟩, id0_fits, id0_small⟩)
 have q3 := Nrm.nrm h3
 refine TO.noG rfl rfl rfl (ne_true h3) rfl (by decide) (TO.noG rfl rfl rfl (ne_true h3) rfl (by decide) (TO.noG rfl rfl rfl (ne_true h3) rfl (by decide) ?_))
 refine ao ?_
 refine wk5 0 4 6 7 52 rfl ?_
 refine ac ?_
 refine ao ?_
 refine TO.store_all 1 rfl rfl rfl (vl rfl) (VL.le (vl rfl) (agg_cellsP _)) rfl sz29 rfl rfl ?_
 refine ao ?_
 refine Tr.drop 0 (Tr.ret (Fin.closeD 1 _ rfl rfl (Fin.retY1 [_] rfl (RVal.cell 0 rfl rfl agg29 sz29 rfl (Pr.le_refl _)) ?_ (fun _ _ _ _ => rfl))))
 · (refine ex_in ⟨_, _, _, _, zeroId⟩ (fact_in ?_ (agg_le ⟨Pr.le_refl _, Pr.le_refl _, Pr.le_refl _, Pr.le_refl _, Pr.le_refl _, Pr.le_refl _, Pr.le_refl _, nil_slice 15, trivial⟩)); exact ⟨hv.1, hv.2, ⟨by show 1 ≤ 1 + _; omega, by show 1 + _ ≤ 12; omega⟩, id0_fits, id0_small⟩)
 refine ac ?_
 refine Tr.cn rfl ?_ ?_ <;> intro h5 q5
 refine ac ?_
 refine Tr.cond rfl (fun _ => ?_) (fun h => nomatch h5.symm.trans h)
 refine ao ?_
 refine TO.efc 2 rfl rfl (by decide) (ef_callc rfl rfl (by decide) rfl (w_DNext (by omega) (by omega)) ⟨ke rfl, ke rfl, trivial⟩) ?_
 refine ao ?_
 refine TO.ef0 0 rfl rfl (ef_store rfl rfl (vl rfl) (VL.le (vl rfl) (one_cellsP _)) sz3 rfl (by exact Nat.le_of_ble_eq_true rfl) rfl) ?_
 refine ao ?_
 refine wk2 4 7 rfl ?_
 refine ao ?_
 refine TO.store_all 1 rfl rfl rfl (vl rfl) (VL.le (vl rfl) (agg_cellsP _)) rfl sz29 rfl rfl ?_
 refine ao ?_
 refine Tr.drop 0 (Tr.ret (Fin.closeD 1 _ rfl rfl (Fin.retY1 [_] rfl (RVal.cell 0 rfl rfl agg29 sz29 rfl (Pr.le_refl _)) ?_ (fun _ _ _ _ => rfl))))
 · (refine ex_in ⟨_, _, _, _, zeroId⟩ (fact_in ?_ (agg_le ⟨Pr.le_refl _, Pr.le_refl _, Pr.le_refl _, Pr.le_refl _, Pr.le_refl _, Pr.le_refl _, Pr.le_refl _, nil_slice 15, trivial⟩)); exact ⟨hv.1, hv.2, ⟨by show 1 ≤ 1 + _; omega, by show 1 + _ ≤ 12; omega⟩, id0_fits, id0_small⟩)
 refine ac ?_
 refine Tr.cn rfl ?_ ?_ <;> intro h6 q6
 refine ao ?_
 refine TO.efc 2 rfl rfl (by decide) (ef_callc rfl rfl (by decide) rfl (w_DNext (by omega) (by omega)) ⟨ke rfl, ke rfl, trivial⟩) ?_
 refine ao ?_
 refine TO.ef0 0 rfl rfl (ef_store rfl rfl (vl rfl) (VL.le (vl rfl) (one_cellsP _)) sz3 rfl (by exact Nat.le_of_ble_eq_true rfl) rfl) ?_
 refine ao ?_
 refine wk2 4 7 rfl ?_
 refine ao ?_
 refine TO.store_all 1 rfl rfl rfl (vl rfl) (VL.le (vl rfl) (agg_cellsP _)) rfl sz29 rfl rfl ?_
 refine ao ?_
 refine Tr.drop 0 (Tr.ret (Fin.closeD 1 _ rfl rfl (Fin.retY1 [_] rfl (RVal.cell 0 rfl rfl agg29 sz29 rfl (Pr.le_refl _)) ?_ (fun _ _ _ _ => rfl))))
 · (refine ex_in ⟨_, _, _, _, zeroId⟩ (fact_in ?_ (agg_le ⟨Pr.le_refl _, Pr.le_refl _, Pr.le_refl _, Pr.le_refl _, Pr.le_refl _, Pr.le_refl _, Pr.le_refl _, nil_slice 15, trivial⟩)); exact ⟨hv.1, hv.2, ⟨by show 1 ≤ 1 + _; omega, by show 1 + _ ≤ 12; omega⟩, id0_fits, id0_small⟩)
 refine ac ?_
 refine wk6 0 4 6 7 24 70 rfl ?_
 refine Tr.cn rfl ?_ ?_ <;> intro h7 q7
 refine Tr.rx ?_
 refine ay ?_
 refine Cx.ef 2 rfl rfl (by decide) (ef_callc rfl rfl (by decide) rfl (w_DNext (by omega) (by omega)) ⟨ke rfl, ke rfl, trivial⟩) ?_
 refine ay ?_
 refine xo rfl (fun _ => kc0 (w_EC) rfl) (xo rfl (fun _ => kc0 (w_RSA) rfl) (xo rfl (fun _ => ok_buildSlice (xs := [.tmp 80, .tmp 81]) (rows := [_, _]) rfl rfl Tryz.underlying114 sz24 z24 rfl (by decide) ⟨⟨(by exact rfl), (VL.le (vl rfl) (agg_cellsP _))⟩, ⟨⟨(by exact rfl), (VL.le (vl rfl) (agg_cellsP _))⟩, trivial⟩⟩ (by decide)) ?_))
 refine xm rfl (Cx.ef 2 rfl rfl (by decide) (ef_callc rfl rfl (by decide) rfl (w_DNext (by omega) (by omega)) ⟨ke rfl, ke rfl, trivial⟩) (xo rfl (fun _ => ok_indexAddr rfl Tryz.underlying114 sz24 ⟨_, rfl, full_le _ _⟩ (vl rfl) (by omega) (abrow hv6)) ?_))
 refine ay ?_
 refine Cx.ef 2 rfl rfl (by decide) (ef_callc rfl rfl (by decide) rfl (w_DNext (by omega) (by omega)) ⟨ke rfl, ke rfl, trivial⟩) ?_
 refine ay ?_
 refine Cx.ef 2 rfl rfl (by decide) (ef_callc rfl rfl (by decide) rfl (w_DNext (by omega) (by omega)) ⟨ke rfl, ke rfl, trivial⟩) ?_
 refine xo rfl (fun _ => ok_add rfl (vl rfl) (vl rfl) ?hin) ?_; case hin => unfold InI; omega
 refine xo rfl (fun _ => kc5 (w_Leaf (name := e.name) (a := if s.adv.adv.adv.val 2 = 0 then 7 else 5) (b := if s.adv.adv.adv.val 2 = 0 then 256 else 2048) (id := 200 + s.adv.adv.adv.adv.val 3) (to := 901) (key := 1 + s.adv.adv.adv.adv.adv.val 2) (leafV hnm (abok _) (by omega) (by omega) (by omega)) (leafT (abok _) (by omega)) (by omega)) rfl rfl rfl rfl rfl rfl) ?_
 refine ay ?_
 refine Cx.ef0 0 rfl rfl (ef_store rfl rfl (vl rfl) (VL.le (vl rfl) (leaf_cells)) sz27 rfl (by exact Nat.le_of_ble_eq_true rfl) rfl) ?_
 refine Cx.nil ⟨by kernel_rfl, ?_⟩
 refine FinX.done al4 ?_
 refine ac ?_
 refine wk2 4 7 rfl ?_
 refine ao ?_
 refine TO.store_all 1 rfl rfl rfl (vl rfl) (VL.le (vl rfl) (agg_cellsP _)) rfl sz29 rfl rfl ?_
 refine ao ?_
 refine Tr.drop 0 (Tr.ret (Fin.closeD 1 _ rfl rfl (Fin.retY1 [_] rfl (RVal.cell 0 rfl rfl agg29 sz29 rfl (Pr.le_refl _)) ?_ (fun _ _ _ _ => rfl))))
 · exact any_leaf (fun s_ => ⟨hv.1, hv.2, ⟨by show 1 ≤ 1 + _; omega, by show 1 + _ ≤ 12; omega⟩, (leafF hnm).1, (leafF hnm).2⟩)
 refine ac ?_
 refine Tr.cn rfl ?_ ?_ <;> intro h8 q8
 refine ao ?_
 refine TO.efc 2 rfl rfl (by decide) (ef_callc rfl rfl (by decide) rfl (w_DNext (by omega) (by omega)) ⟨ke rfl, ke rfl, trivial⟩) ?_
 refine ao ?_
 refine TO.ef0 0 rfl rfl (ef_store rfl rfl (vl rfl) (VL.le (vl rfl) (one_cellsP _)) sz3 rfl (by exact Nat.le_of_ble_eq_true rfl) rfl) ?_
 refine ao ?_
 refine ao ?_
 refine TO.cases 106 rfl (fun h9 => ?_) (fun h9 => ?_)
 have q9 := Nrm.nrm h9
 refine TO.opG rfl rfl rfl h9 rfl (by decide) (ok_move rfl (vl rfl)) (TO.efcG 2 rfl rfl rfl h9 rfl rfl (by decide) (ef_callc rfl rfl (by decide) rfl (w_DOne (by omega) (by omega)) ⟨ke rfl, ke rfl, trivial⟩) (TO.opG rfl rfl rfl h9 rfl (by decide) (ok_not rfl (vl rfl)) ?_))
 refine ao ?_
 refine wk5 0 4 6 7 110 rfl ?_
 refine Tr.cn rfl ?_ ?_ <;> intro h10 q10
 have hv9 := s.adv.adv.adv.adv.val_in (n := e.ids.length) (by omega)
 obtain ⟨iy, hiy⟩ := at_ (l := e.ids) (k := (s.adv.adv.adv.adv.val e.ids.length).toNat) (by omega)
 refine Tr.rx ?_
 refine ay ?_
 refine Cx.ef 2 rfl rfl (by decide) (ef_callc rfl rfl (by decide) rfl (w_DNext (by omega) (by omega)) ⟨ke rfl, ke rfl, trivial⟩) (xo rfl (fun _ => ok_indexAddr rfl Tryz.underlying30 sz27 (vl rfl) (vl rfl) (by omega) (row_atI hiy)) ?_)
 refine ay ?_
 refine Cx.nil ⟨by kernel_rfl, ?_⟩
 refine FinX.done al4 ?_
 refine ac ?_
 refine wk2 4 7 rfl ?_
 refine ao ?_
 refine TO.store_all 1 rfl rfl rfl (vl rfl) (VL.le (vl rfl) (agg_cellsP _)) rfl sz29 rfl rfl ?_
 refine ao ?_
 refine Tr.drop 0 (Tr.ret (Fin.closeD 1 _ rfl rfl (Fin.retY1 [_] rfl (RVal.cell 0 rfl rfl agg29 sz29 rfl (Pr.le_refl _)) ?_ (fun _ _ _ _ => rfl))))
 · (refine ex_in ⟨_, _, _, _, zeroId⟩ (fact_in ?_ (agg_le ⟨Pr.le_refl _, Pr.le_refl _, Pr.le_refl _, Pr.le_refl _, Pr.le_refl _, Pr.le_refl _, Pr.le_refl _, nil_slice 15, trivial⟩)); exact ⟨hv.1, hv.2, ⟨by show 1 ≤ 1 + _; omega, by show 1 + _ ≤ 12; omega⟩, id0_fits, id0_small⟩)
 refine ac ?_
 refine ao ?_
 refine TO.store_all 1 rfl rfl rfl (vl rfl) (VL.le (vl rfl) (agg_cellsP _)) rfl sz29 rfl rfl ?_
 refine ao ?_
 refine Tr.drop 0 (Tr.ret (Fin.closeD 1 _ rfl rfl (Fin.retY1 [_] rfl (RVal.cell 0 rfl rfl agg29 sz29 rfl (Pr.le_refl _)) ?_ (fun _ _ _ _ => rfl))))
 · (refine ex_in ⟨_, _, _, _, zeroId⟩ (fact_in ?_ (agg_le ⟨Pr.le_refl _, Pr.le_refl _, Pr.le_refl _, Pr.le_refl _, Pr.le_refl _, Pr.le_refl _, Pr.le_refl _, nil_slice 15, trivial⟩)); exact ⟨hv.1, hv.2, ⟨by show 1 ≤ 1 + _; omega, by show 1 + _ ≤ 12; omega⟩, id0_fits, id0_small⟩)
 have q9 := Nrm.nrm h9
 refine TO.noG rfl rfl rfl (ne_true h9) rfl (by decide) (TO.noG rfl rfl rfl (ne_true h9) rfl (by decide) (TO.noG rfl rfl rfl (ne_true h9) rfl (by decide) ?_))
 refine ao ?_
 refine wk5 0 4 6 7 110 rfl ?_
 refine ac ?_
 refine ao ?_
 refine TO.store_all 1 rfl rfl rfl (vl rfl) (VL.le (vl rfl) (agg_cellsP _)) rfl sz29 rfl rfl ?_
 refine ao ?_
 refine Tr.drop 0 (Tr.ret (Fin.closeD 1 _ rfl rfl (Fin.retY1 [_] rfl (RVal.cell 0 rfl rfl agg29 sz29 rfl (Pr.le_refl _)) ?_ (fun _ _ _ _ => rfl))))
 · (refine ex_in ⟨_, _, _, _, zeroId⟩ (fact_in ?_ (agg_le ⟨Pr.le_refl _, Pr.le_refl _, Pr.le_refl _, Pr.le_refl _, Pr.le_refl _, Pr.le_refl _, Pr.le_refl _, nil_slice 15, trivial⟩)); exact ⟨hv.1, hv.2, ⟨by show 1 ≤ 1 + _; omega, by show 1 + _ ≤ 12; omega⟩, id0_fits, id0_small⟩)
 refine ac ?_
 refine Tr.cn rfl ?_ ?_ <;> intro h11 q11
 refine ac ?_
 refine Tr.cond rfl (fun _ => ?_) (fun h => nomatch h11.symm.trans h)
 refine ao ?_
 refine TO.efc 2 rfl rfl (by decide) (ef_callc rfl rfl (by decide) rfl (w_DNext (by omega) (by omega)) ⟨ke rfl, ke rfl, trivial⟩) ?_
 refine ao ?_
 refine TO.ef0 0 rfl rfl (ef_store rfl rfl (vl rfl) (VL.le (vl rfl) (one_cellsP _)) sz3 rfl (by exact Nat.le_of_ble_eq_true rfl) rfl) ?_
 refine ao ?_
 refine wk2 4 7 rfl ?_
 refine ao ?_
 refine TO.store_all 1 rfl rfl rfl (vl rfl) (VL.le (vl rfl) (agg_cellsP _)) rfl sz29 rfl rfl ?_
 refine ao ?_
 refine Tr.drop 0 (Tr.ret (Fin.closeD 1 _ rfl rfl (Fin.retY1 [_] rfl (RVal.cell 0 rfl rfl agg29 sz29 rfl (Pr.le_refl _)) ?_ (fun _ _ _ _ => rfl))))
 · (refine ex_in ⟨_, _, _, _, zeroId⟩ (fact_in ?_ (agg_le ⟨Pr.le_refl _, Pr.le_refl _, Pr.le_refl _, Pr.le_refl _, Pr.le_refl _, Pr.le_refl _, Pr.le_refl _, nil_slice 15, trivial⟩)); exact ⟨hv.1, hv.2, ⟨by show 1 ≤ 1 + _; omega, by show 1 + _ ≤ 12; omega⟩, id0_fits, id0_small⟩)
 refine ac ?_
 refine Tr.cn rfl ?_ ?_ <;> intro h12 q12
 refine ao ?_
 refine TO.efc 2 rfl rfl (by decide) (ef_callc rfl rfl (by decide) rfl (w_DNext (by omega) (by omega)) ⟨ke rfl, ke rfl, trivial⟩) ?_
 refine ao ?_
 refine TO.ef0 0 rfl rfl (ef_store rfl rfl (vl rfl) (VL.le (vl rfl) (one_cellsP _)) sz3 rfl (by exact Nat.le_of_ble_eq_true rfl) rfl) ?_
 refine ao ?_
 refine wk2 4 7 rfl ?_
 refine ao ?_
 refine TO.store_all 1 rfl rfl rfl (vl rfl) (VL.le (vl rfl) (agg_cellsP _)) rfl sz29 rfl rfl ?_
 refine ao ?_
 refine Tr.drop 0 (Tr.ret (Fin.closeD 1 _ rfl rfl (Fin.retY1 [_] rfl (RVal.cell 0 rfl rfl agg29 sz29 rfl (Pr.le_refl _)) ?_ (fun _ _ _ _ => rfl))))
 · (refine ex_in ⟨_, _, _, _, zeroId⟩ (fact_in ?_ (agg_le ⟨Pr.le_refl _, Pr.le_refl _, Pr.le_refl _, Pr.le_refl _, Pr.le_refl _, Pr.le_refl _, Pr.le_refl _, nil_slice 15, trivial⟩)); exact ⟨hv.1, hv.2, ⟨by show 1 ≤ 1 + _; omega, by show 1 + _ ≤ 12; omega⟩, id0_fits, id0_small⟩)
 refine ac ?_
 refine wk5 0 4 7 24 129 rfl ?_
 refine Tr.cn rfl ?_ ?_ <;> intro h13 q13
 refine ac ?_
 refine Tr.cond rfl (fun _ => ?_) (fun h => nomatch h13.symm.trans h)
 refine ao ?_
 refine TO.efc 2 rfl rfl (by decide) (ef_callc rfl rfl (by decide) rfl (w_DNext (by omega) (by omega)) ⟨ke rfl, ke rfl, trivial⟩) ?_
 refine ao ?_
 refine TO.ef0 0 rfl rfl (ef_store rfl rfl (vl rfl) (VL.le (vl rfl) (one_cellsP _)) sz3 rfl (by exact Nat.le_of_ble_eq_true rfl) rfl) ?_
 refine ao ?_
 refine ao ?_
 refine TO.store_all 1 rfl rfl rfl (vl rfl) (VL.le (vl rfl) (agg_cellsP _)) rfl sz29 rfl rfl ?_
 refine ao ?_
 refine Tr.drop 0 (Tr.ret (Fin.closeD 1 _ rfl rfl (Fin.retY1 [_] rfl (RVal.cell 0 rfl rfl agg29 sz29 rfl (Pr.le_refl _)) ?_ (fun _ _ _ _ => rfl))))
 · (refine ex_in ⟨_, _, _, _, zeroId⟩ (fact_in ?_ (agg_le ⟨Pr.le_refl _, Pr.le_refl _, Pr.le_refl _, Pr.le_refl _, Pr.le_refl _, Pr.le_refl _, Pr.le_refl _, nil_slice 15, trivial⟩)); exact ⟨hv.1, hv.2, ⟨by show 1 ≤ 1 + _; omega, by show 1 + _ ≤ 12; omega⟩, id0_fits, id0_small⟩)
 refine ac ?_
 refine Tr.cn rfl ?_ ?_ <;> intro h14 q14
 refine ao ?_
 refine TO.efc 2 rfl rfl (by decide) (ef_callc rfl rfl (by decide) rfl (w_DNext (by omega) (by omega)) ⟨ke rfl, ke rfl, trivial⟩) ?_
 refine ao ?_
 refine TO.ef0 0 rfl rfl (ef_store rfl rfl (vl rfl) (VL.le (vl rfl) (one_cellsP _)) sz3 rfl (by exact Nat.le_of_ble_eq_true rfl) rfl) ?_
 refine ao ?_
 refine ao ?_
 refine TO.store_all 1 rfl rfl rfl (vl rfl) (VL.le (vl rfl) (agg_cellsP _)) rfl sz29 rfl rfl ?_
 refine ao ?_
 refine Tr.drop 0 (Tr.ret (Fin.closeD 1 _ rfl rfl (Fin.retY1 [_] rfl (RVal.cell 0 rfl rfl agg29 sz29 rfl (Pr.le_refl _)) ?_ (fun _ _ _ _ => rfl))))
 · (refine ex_in ⟨_, _, _, _, zeroId⟩ (fact_in ?_ (agg_le ⟨Pr.le_refl _, Pr.le_refl _, Pr.le_refl _, Pr.le_refl _, Pr.le_refl _, Pr.le_refl _, Pr.le_refl _, nil_slice 15, trivial⟩)); exact ⟨hv.1, hv.2, ⟨by show 1 ≤ 1 + _; omega, by show 1 + _ ≤ 12; omega⟩, id0_fits, id0_small⟩)
 refine ac ?_
 refine Tr.cn rfl ?_ ?_ <;> intro h15 q15
 refine ac ?_
 refine Tr.cond rfl (fun _ => ?_) (fun h => nomatch h15.symm.trans h)
 refine ao ?_
 refine TO.efc 2 rfl rfl (by decide) (ef_callc rfl rfl (by decide) rfl (w_DNext (by omega) (by omega)) ⟨ke rfl, ke rfl, trivial⟩) (tp rfl (okp_fieldAddr rfl fo29_2 (vl rfl)) (TO.ef0 0 rfl rfl (ef_store rfl rfl (vl rfl) (VL.le (vl rfl) (one_cellsP _)) sz3 rfl (by exact Nat.le_of_ble_eq_true rfl) rfl) ?_))
 refine ao ?_
 refine ao ?_
 refine TO.store_all 1 rfl rfl rfl (vl rfl) (VL.le (vl rfl) (agg_cellsP _)) rfl sz29 rfl rfl ?_
 refine ao ?_
 refine Tr.drop 0 (Tr.ret (Fin.closeD 1 _ rfl rfl (Fin.retY1 [_] rfl (RVal.cell 0 rfl rfl agg29 sz29 rfl (Pr.le_refl _)) ?_ (fun _ _ _ _ => rfl))))
 · (refine ex_in ⟨_, _, _, _, zeroId⟩ (fact_in ?_ (agg_le ⟨Pr.le_refl _, Pr.le_refl _, Pr.le_refl _, Pr.le_refl _, Pr.le_refl _, Pr.le_refl _, Pr.le_refl _, nil_slice 15, trivial⟩)); exact ⟨hv.1, hv.2, ⟨by show 1 ≤ 1 + _; omega, by show 1 + _ ≤ 12; omega⟩, id0_fits, id0_small⟩)
 refine ac ?_
 refine Tr.cn rfl ?_ ?_ <;> intro h16 q16
 refine ao ?_
 refine TO.efc 2 rfl rfl (by decide) (ef_callc rfl rfl (by decide) rfl (w_DNext (by omega) (by omega)) ⟨ke rfl, ke rfl, trivial⟩) (tp rfl (okp_fieldAddr rfl fo29_2 (vl rfl)) (TO.ef0 0 rfl rfl (ef_store rfl rfl (vl rfl) (VL.le (vl rfl) (one_cellsP _)) sz3 rfl (by exact Nat.le_of_ble_eq_true rfl) rfl) ?_))
 refine ao ?_
 refine wk2 4 7 rfl ?_
 refine ao ?_
 refine TO.store_all 1 rfl rfl rfl (vl rfl) (VL.le (vl rfl) (agg_cellsP _)) rfl sz29 rfl rfl ?_
 refine ao ?_
 refine Tr.drop 0 (Tr.ret (Fin.closeD 1 _ rfl rfl (Fin.retY1 [_] rfl (RVal.cell 0 rfl rfl agg29 sz29 rfl (Pr.le_refl _)) ?_ (fun _ _ _ _ => rfl))))
 · (refine ex_in ⟨_, _, _, _, zeroId⟩ (fact_in ?_ (agg_le ⟨Pr.le_refl _, Pr.le_refl _, Pr.le_refl _, Pr.le_refl _, Pr.le_refl _, Pr.le_refl _, Pr.le_refl _, nil_slice 15, trivial⟩)); exact ⟨hv.1, hv.2, ⟨by show 1 ≤ 1 + _; omega, by show 1 + _ ≤ 12; omega⟩, id0_fits, id0_small⟩)
 refine ac ?_
 refine ao ?_
 refine TO.store_all 1 rfl rfl rfl (vl rfl) (VL.le (vl rfl) (agg_cellsP _)) rfl sz29 rfl rfl ?_
 refine ao ?_
 refine Tr.drop 0 (Tr.ret (Fin.closeD 1 _ rfl rfl (Fin.retY1 [_] rfl (RVal.cell 0 rfl rfl agg29 sz29 rfl (Pr.le_refl _)) ?_ (fun _ _ _ _ => rfl))))
 · (refine ex_in ⟨_, _, _, _, zeroId⟩ (fact_in ?_ (agg_le ⟨Pr.le_refl _, Pr.le_refl _, Pr.le_refl _, Pr.le_refl _, Pr.le_refl _, Pr.le_refl _, Pr.le_refl _, nil_slice 15, trivial⟩)); exact ⟨hv.1, hv.2, ⟨by show 1 ≤ 1 + _; omega, by show 1 + _ ≤ 12; omega⟩, id0_fits, id0_small⟩)
end Go.Proofs.YtppeeogffbpcbaaGreat
namespace Go.Proofs.YtppeeogffbpcbaaGreat
open Go Go.RowKit Cp

/-- Of some size. -/
structure Ept.sz (e : Ept) (n : Nat) : Prop where
  name : e.name.length ≤ maxLen
  suites : e.suites.length ≤ n
  anchors : e.anchors.length ≤ n
  hashes : e.hashes.length ≤ n
  idl : e.ids.length ≤ n
  ids : ∀ x ∈ e.ids, x.fits ∧ x.small
theorem Ept.sz.fits {e : Ept} {n : Nat} (h : e.sz n) : e.fits := ⟨h.name, fun x hx => (h.ids x hx).1⟩
theorem Ept.sz.small {e : Ept} {n : Nat} (h : e.sz n) (hn : n ≤ 1000000) : e.small := ⟨by have := h.suites; omega, by have := h.anchors; omega, by have := h.hashes; omega, by have := h.idl; omega, fun x hx => (h.ids x hx).2⟩
theorem Ept.sz.le {e : Ept} {n m : Nat} (h : e.sz n) (hn : n ≤ m) : e.sz m := ⟨h.name, Nat.le_trans h.suites hn, Nat.le_trans h.anchors hn, Nat.le_trans h.hashes hn, Nat.le_trans h.idl hn, h.ids⟩
theorem sndE_sz {i : Nat} {e : Ept} (h : SndE i e) : e.sz 5 := by
  have hs := sndS_ok _ (sndE_suites h)
  have h1 := sndE_fits h; have h2 := sndE_small h
  obtain ⟨s, hs1, hs2⟩ := h.ids
  exact ⟨h1.name, hs.2, by rw [h.anchors]; simp, by rw [h.hashes]; simp, by rw [hs2]; simp, fun x hx => ⟨h1.ids x hx, h2.ids x hx⟩⟩
theorem len_ins {α : Type} {l : List α} {a : α} {i : Nat} : (l.take i ++ [a] ++ l.drop i).length ≤ l.length + 1 := by simp [List.length_take, List.length_drop]; omega
theorem len_del {α : Type} {l : List α} {i : Nat} : (l.eraseIdx i).length ≤ l.length := by rw [List.length_eraseIdx]; split <;> omega
theorem id0_fs : zeroId.fits ∧ zeroId.small := ⟨id0_fits, id0_small⟩
theorem mem_ins {P : Idn → Prop} {l : List Idn} {x : Idn} {i : Nat} (h : ∀ y ∈ l, P y) (hx : P x) : ∀ y ∈ l.take i ++ [x] ++ l.drop i, P y := by
  intro y hy
  simp only [List.mem_append, List.mem_cons, List.not_mem_nil, or_false] at hy
  rcases hy with (hy | rfl) | hy
  · exact h y (List.mem_of_mem_take hy)
  · exact hx
  · exact h y (List.mem_of_mem_drop hy)
theorem sz_step {e : Ept} {c : Chg} {x : Ept} {b : Chg} {n : Nat} (hc : okCh c) (h : stepR e c = .ok (x, b)) (hs : e.sz n) (hi : c.idn.fits ∧ c.idn.small) : x.sz (n + 1) ∧ b.idn.fits ∧ b.idn.small := by
  have h1 := hs.suites; have h2 := hs.anchors; have h3 := hs.hashes; have h4 := hs.idl
  rcases kinds12 hc.1 with hk | hk | hk | hk | hk | hk | hk | hk | hk | hk | hk | hk
  · rw [stepR_1 hk] at h; (repeat' (split at h)) <;> first | (cases h; done) | (injection h with h; obtain ⟨rfl, rfl⟩ := Prod.mk.inj h; exact ⟨⟨hs.name, Nat.le_trans len_ins (by omega), Nat.le_trans h2 (by omega), Nat.le_trans h3 (by omega), Nat.le_trans h4 (by omega), hs.ids⟩, id0_fs⟩)
  · rw [stepR_2 hk] at h; (repeat' (split at h)) <;> first | (cases h; done) | (injection h with h; obtain ⟨rfl, rfl⟩ := Prod.mk.inj h; exact ⟨⟨hs.name, Nat.le_trans len_del (by omega), Nat.le_trans h2 (by omega), Nat.le_trans h3 (by omega), Nat.le_trans h4 (by omega), hs.ids⟩, id0_fs⟩)
  · rw [stepR_3 hk] at h; (repeat' (split at h)) <;> first | (cases h; done) | (injection h with h; obtain ⟨rfl, rfl⟩ := Prod.mk.inj h; exact ⟨⟨hs.name, Nat.le_trans h1 (by omega), Nat.le_trans h2 (by omega), Nat.le_trans h3 (by omega), Nat.le_trans h4 (by omega), hs.ids⟩, id0_fs⟩)
  · rw [stepR_4 hk] at h; (repeat' (split at h)) <;> first | (cases h; done) | (injection h with h; obtain ⟨rfl, rfl⟩ := Prod.mk.inj h; exact ⟨⟨hs.name, Nat.le_trans h1 (by omega), Nat.le_trans h2 (by omega), Nat.le_trans h3 (by omega), Nat.le_trans h4 (by omega), hs.ids⟩, id0_fs⟩)
  · rw [stepR_5 hk] at h; (repeat' (split at h)) <;> first | (cases h; done) | (injection h with h; obtain ⟨rfl, rfl⟩ := Prod.mk.inj h; exact ⟨⟨hs.name, Nat.le_trans h1 (by omega), Nat.le_trans h2 (by omega), Nat.le_trans h3 (by omega), Nat.le_trans len_ins (by omega), mem_ins hs.ids hi⟩, id0_fs⟩)
  · rw [stepR_6 hk] at h; (repeat' (split at h)) <;> first | (cases h; done) | (injection h with h; obtain ⟨rfl, rfl⟩ := Prod.mk.inj h; exact ⟨⟨hs.name, Nat.le_trans h1 (by omega), Nat.le_trans h2 (by omega), Nat.le_trans h3 (by omega), Nat.le_trans len_del (by omega), fun y hy => hs.ids y (List.mem_of_mem_eraseIdx hy)⟩, hs.ids _ (List.mem_of_getElem? (by assumption))⟩)
  · rw [stepR_7 hk] at h; (repeat' (split at h)) <;> first | (cases h; done) | (injection h with h; obtain ⟨rfl, rfl⟩ := Prod.mk.inj h; exact ⟨⟨hs.name, Nat.le_trans h1 (by omega), Nat.le_trans len_ins (by omega), Nat.le_trans h3 (by omega), Nat.le_trans h4 (by omega), hs.ids⟩, id0_fs⟩)
  · rw [stepR_8 hk] at h; (repeat' (split at h)) <;> first | (cases h; done) | (injection h with h; obtain ⟨rfl, rfl⟩ := Prod.mk.inj h; exact ⟨⟨hs.name, Nat.le_trans h1 (by omega), Nat.le_trans len_del (by omega), Nat.le_trans h3 (by omega), Nat.le_trans h4 (by omega), hs.ids⟩, id0_fs⟩)
  · rw [stepR_9 hk] at h; (repeat' (split at h)) <;> first | (cases h; done) | (injection h with h; obtain ⟨rfl, rfl⟩ := Prod.mk.inj h; exact ⟨⟨hs.name, Nat.le_trans h1 (by omega), Nat.le_trans h2 (by omega), Nat.le_trans len_ins (by omega), Nat.le_trans h4 (by omega), hs.ids⟩, id0_fs⟩)
  · rw [stepR_10 hk] at h; (repeat' (split at h)) <;> first | (cases h; done) | (injection h with h; obtain ⟨rfl, rfl⟩ := Prod.mk.inj h; exact ⟨⟨hs.name, Nat.le_trans h1 (by omega), Nat.le_trans h2 (by omega), Nat.le_trans len_del (by omega), Nat.le_trans h4 (by omega), hs.ids⟩, id0_fs⟩)
  · rw [stepR_11 hk] at h; (repeat' (split at h)) <;> first | (cases h; done) | (injection h with h; obtain ⟨rfl, rfl⟩ := Prod.mk.inj h; exact ⟨⟨hs.name, Nat.le_trans h1 (by omega), Nat.le_trans h2 (by omega), Nat.le_trans h3 (by omega), Nat.le_trans h4 (by omega), hs.ids⟩, id0_fs⟩)
  · rw [stepR_12 hk] at h; (repeat' (split at h)) <;> first | (cases h; done) | (injection h with h; obtain ⟨rfl, rfl⟩ := Prod.mk.inj h; exact ⟨⟨hs.name, Nat.le_trans h1 (by omega), Nat.le_trans h2 (by omega), Nat.le_trans h3 (by omega), Nat.le_trans h4 (by omega), hs.ids⟩, id0_fs⟩)

theorem sz_done {e : Ept} {c : Chg} {x : Ept} {b : Chg} {n : Nat} (h : doneR e c = (x, b, 0)) (hs : e.sz n) (hi : c.idn.fits ∧ c.idn.small) : x.sz (n + 1) ∧ b.idn.fits ∧ b.idn.small := by
  obtain ⟨_, h2, h3, _⟩ := doneR_inv h
  exact sz_step h2 h3 hs hi
end Go.Proofs.YtppeeogffbpcbaaGreat
namespace Go.Proofs.YtppeeogffbpcbaaGreat
open Go Go.RowKit Cp

def letN (n : Nat) : Bool := decide ((97 ≤ n ∧ n ≤ 122) ∨ (65 ≤ n ∧ n ≤ 90) ∨ (48 ≤ n ∧ n ≤ 57) ∨ n = 45 ∨ n = 95 ∨ n = 46)
theorem letter_all : ∀ n ∈ List.range 256, letterB [45, 95, 46] (UInt8.ofNat n) = letN n := by decide +kernel
theorem letter_eq (c : UInt8) : letterB [45, 95, 46] c = letN c.toNat := by
  have h := letter_all c.toNat (List.mem_range.2 c.toNat_lt)
  rw [UInt8.ofNat_toNat] at h; exact h

theorem w_R6Word {s : List UInt8}  : Fun Tryz.prog 124 [str s] (bool (wordB s)) := by
 refine fo Tryz.func124 rfl ⟨rfl, rfl⟩ fun M0 w0 => ?_
 refine ac ?_
 refine ac ?_
 refine Ch.cs 8 rfl ?_ ?_ <;> intro h1 q1
 refine ac ?_
 refine ac ?_
 refine ac ?_
 · refine bool_eq ?_; unfold wordB; rw [Bool.and_eq_false_iff.2 (.inr (by simp; omega))]
 refine ac ?_
 refine Tr.cn rfl ?_ ?_ <;> intro h2 q2
 refine ac ?_
 refine ac ?_
 · refine bool_eq ?_; unfold wordB; rw [Bool.and_eq_false_iff.2 (.inr (by simp; omega))]
 refine ac ?_
 refine ac ?_
 refine Tr.block (Tr.loopw [(0, _)] ⟨ke rfl, trivial⟩ (fun k : Nat => [(3, int ((k : Nat) : Int))]) (fun k : Nat => k ≤ (s).length ∧ (∀ j y, j < k → s[j]? = some y → (!letterB [45, 95, 46] y) = false)) (fun k : Nat => (s).length - k) 0 (⟨Nat.zero_le _, fun j y hj => absurd hj (by omega)⟩) ⟨ke rfl, trivial⟩ ?_)
 rintro k ⟨hle_k, hinv_k⟩
 refine ac ?_
 refine Tr.cn rfl ?_ ?_ <;> intro h3 q3
 have hk_k : k < (s).length := lt_of_dec h3
 obtain ⟨c, hx_k⟩ := at_ hk_k
 refine ac ?_
 refine ac ?_
 refine co rfl (ok_sidx rfl Tryz.underlying9 (vl rfl) (vl rfl) (by omega) (sidx_at (by assumption))) ?_
 refine ac ?_
 refine ac ?_
 refine Ch.cs 24 rfl ?_ ?_ <;> intro h4 q4
 refine ac ?_
 refine Ch.cs 31 rfl ?_ ?_ <;> intro h5 q5
 refine ac ?_
 refine Ch.cs 39 rfl ?_ ?_ <;> intro h6 q6
 refine ac ?_
 refine Ch.cs 48 rfl ?_ ?_ <;> intro h7 q7
 refine ac ?_
 refine Ch.cs 52 rfl ?_ ?_ <;> intro h8 q8
 refine ac ?_
 refine wk3 0 3 55 rfl ?_
 refine Tr.cn rfl ?_ ?_ <;> intro h9 q9
 refine ac ?_
 refine ac ?_
 · refine bool_eq ?_; unfold wordB; rw [all_hit (p := letterB [45, 95, 46]) hx_k (by rw [letter_eq]; unfold letN; simp; omega)]; rfl
 refine ac ?_
 refine ac ?_
 exact Fin.fam_same (k + 1) ⟨⟨hk_k, step_no (p := fun c => !letterB [45, 95, 46] c) hx_k (by rw [letter_eq]; unfold letN; simp; omega) hinv_k⟩, by omega⟩ ⟨⟨_, rfl, int_succ k⟩, ke rfl, trivial⟩
 refine ac ?_
 refine wk3 0 3 55 rfl ?_
 refine ac ?_
 refine ac ?_
 exact Fin.fam_same (k + 1) ⟨⟨hk_k, step_no (p := fun c => !letterB [45, 95, 46] c) hx_k (by rw [letter_eq]; unfold letN; simp; omega) hinv_k⟩, by omega⟩ ⟨⟨_, rfl, int_succ k⟩, ke rfl, trivial⟩
 refine ac ?_
 refine wk3 0 3 55 rfl ?_
 refine ac ?_
 refine ac ?_
 exact Fin.fam_same (k + 1) ⟨⟨hk_k, step_no (p := fun c => !letterB [45, 95, 46] c) hx_k (by rw [letter_eq]; unfold letN; simp; omega) hinv_k⟩, by omega⟩ ⟨⟨_, rfl, int_succ k⟩, ke rfl, trivial⟩
 refine ac ?_
 refine Ch.cs 44 rfl ?_ ?_ <;> intro h10 q10
 refine ac ?_
 refine Ch.cs 48 rfl ?_ ?_ <;> intro h11 q11
 refine ac ?_
 refine Ch.cs 52 rfl ?_ ?_ <;> intro h12 q12
 refine ac ?_
 refine wk3 0 3 55 rfl ?_
 refine Tr.cn rfl ?_ ?_ <;> intro h13 q13
 refine ac ?_
 refine ac ?_
 · refine bool_eq ?_; unfold wordB; rw [all_hit (p := letterB [45, 95, 46]) hx_k (by rw [letter_eq]; unfold letN; simp; omega)]; rfl
 refine ac ?_
 refine ac ?_
 exact Fin.fam_same (k + 1) ⟨⟨hk_k, step_no (p := fun c => !letterB [45, 95, 46] c) hx_k (by rw [letter_eq]; unfold letN; simp; omega) hinv_k⟩, by omega⟩ ⟨⟨_, rfl, int_succ k⟩, ke rfl, trivial⟩
 refine ac ?_
 refine wk3 0 3 55 rfl ?_
 refine ac ?_
 refine ac ?_
 exact Fin.fam_same (k + 1) ⟨⟨hk_k, step_no (p := fun c => !letterB [45, 95, 46] c) hx_k (by rw [letter_eq]; unfold letN; simp; omega) hinv_k⟩, by omega⟩ ⟨⟨_, rfl, int_succ k⟩, ke rfl, trivial⟩
 refine ac ?_
 refine wk3 0 3 55 rfl ?_
 refine ac ?_
 refine ac ?_
 exact Fin.fam_same (k + 1) ⟨⟨hk_k, step_no (p := fun c => !letterB [45, 95, 46] c) hx_k (by rw [letter_eq]; unfold letN; simp; omega) hinv_k⟩, by omega⟩ ⟨⟨_, rfl, int_succ k⟩, ke rfl, trivial⟩
 refine ac ?_
 refine wk3 0 3 55 rfl ?_
 refine ac ?_
 refine ac ?_
 exact Fin.fam_same (k + 1) ⟨⟨hk_k, step_no (p := fun c => !letterB [45, 95, 46] c) hx_k (by rw [letter_eq]; unfold letN; simp; omega) hinv_k⟩, by omega⟩ ⟨⟨_, rfl, int_succ k⟩, ke rfl, trivial⟩
 refine ac ?_
 refine Ch.cs 36 rfl ?_ ?_ <;> intro h14 q14
 refine ac ?_
 refine Ch.cs 39 rfl ?_ ?_ <;> intro h15 q15
 refine ac ?_
 refine Ch.cs 48 rfl ?_ ?_ <;> intro h16 q16
 refine ac ?_
 refine Ch.cs 52 rfl ?_ ?_ <;> intro h17 q17
 refine ac ?_
 refine wk3 0 3 55 rfl ?_
 refine Tr.cn rfl ?_ ?_ <;> intro h18 q18
 refine ac ?_
 refine ac ?_
 · refine bool_eq ?_; unfold wordB; rw [all_hit (p := letterB [45, 95, 46]) hx_k (by rw [letter_eq]; unfold letN; simp; omega)]; rfl
 refine ac ?_
 refine ac ?_
 exact Fin.fam_same (k + 1) ⟨⟨hk_k, step_no (p := fun c => !letterB [45, 95, 46] c) hx_k (by rw [letter_eq]; unfold letN; simp; omega) hinv_k⟩, by omega⟩ ⟨⟨_, rfl, int_succ k⟩, ke rfl, trivial⟩
 refine ac ?_
 refine wk3 0 3 55 rfl ?_
 refine ac ?_
 refine ac ?_
 exact Fin.fam_same (k + 1) ⟨⟨hk_k, step_no (p := fun c => !letterB [45, 95, 46] c) hx_k (by rw [letter_eq]; unfold letN; simp; omega) hinv_k⟩, by omega⟩ ⟨⟨_, rfl, int_succ k⟩, ke rfl, trivial⟩
 refine ac ?_
 refine wk3 0 3 55 rfl ?_
 refine ac ?_
 refine ac ?_
 exact Fin.fam_same (k + 1) ⟨⟨hk_k, step_no (p := fun c => !letterB [45, 95, 46] c) hx_k (by rw [letter_eq]; unfold letN; simp; omega) hinv_k⟩, by omega⟩ ⟨⟨_, rfl, int_succ k⟩, ke rfl, trivial⟩
 refine ac ?_
 refine Ch.cs 44 rfl ?_ ?_ <;> intro h19 q19
 refine ac ?_
 refine Ch.cs 48 rfl ?_ ?_ <;> intro h20 q20
 refine ac ?_
 refine Ch.cs 52 rfl ?_ ?_ <;> intro h21 q21
 refine ac ?_
 refine wk3 0 3 55 rfl ?_
 refine Tr.cn rfl ?_ ?_ <;> intro h22 q22
 refine ac ?_
 refine ac ?_
 · refine bool_eq ?_; unfold wordB; rw [all_hit (p := letterB [45, 95, 46]) hx_k (by rw [letter_eq]; unfold letN; simp; omega)]; rfl
 refine ac ?_
 refine ac ?_
 exact Fin.fam_same (k + 1) ⟨⟨hk_k, step_no (p := fun c => !letterB [45, 95, 46] c) hx_k (by rw [letter_eq]; unfold letN; simp; omega) hinv_k⟩, by omega⟩ ⟨⟨_, rfl, int_succ k⟩, ke rfl, trivial⟩
 refine ac ?_
 refine wk3 0 3 55 rfl ?_
 refine ac ?_
 refine ac ?_
 exact Fin.fam_same (k + 1) ⟨⟨hk_k, step_no (p := fun c => !letterB [45, 95, 46] c) hx_k (by rw [letter_eq]; unfold letN; simp; omega) hinv_k⟩, by omega⟩ ⟨⟨_, rfl, int_succ k⟩, ke rfl, trivial⟩
 refine ac ?_
 refine wk3 0 3 55 rfl ?_
 refine ac ?_
 refine ac ?_
 exact Fin.fam_same (k + 1) ⟨⟨hk_k, step_no (p := fun c => !letterB [45, 95, 46] c) hx_k (by rw [letter_eq]; unfold letN; simp; omega) hinv_k⟩, by omega⟩ ⟨⟨_, rfl, int_succ k⟩, ke rfl, trivial⟩
 refine ac ?_
 refine wk3 0 3 55 rfl ?_
 refine ac ?_
 refine ac ?_
 exact Fin.fam_same (k + 1) ⟨⟨hk_k, step_no (p := fun c => !letterB [45, 95, 46] c) hx_k (by rw [letter_eq]; unfold letN; simp; omega) hinv_k⟩, by omega⟩ ⟨⟨_, rfl, int_succ k⟩, ke rfl, trivial⟩
 refine ac ?_
 refine wk3 0 3 55 rfl ?_
 refine ac ?_
 refine ac ?_
 exact Fin.fam_same (k + 1) ⟨⟨hk_k, step_no (p := fun c => !letterB [45, 95, 46] c) hx_k (by rw [letter_eq]; unfold letN; simp; omega) hinv_k⟩, by omega⟩ ⟨⟨_, rfl, int_succ k⟩, ke rfl, trivial⟩
 refine ac ?_
 refine Ch.cs 28 rfl ?_ ?_ <;> intro h23 q23
 refine ac ?_
 refine Ch.cs 31 rfl ?_ ?_ <;> intro h24 q24
 refine ac ?_
 refine Ch.cs 39 rfl ?_ ?_ <;> intro h25 q25
 refine ac ?_
 refine Ch.cs 48 rfl ?_ ?_ <;> intro h26 q26
 refine ac ?_
 refine Ch.cs 52 rfl ?_ ?_ <;> intro h27 q27
 refine ac ?_
 refine wk3 0 3 55 rfl ?_
 refine Tr.cn rfl ?_ ?_ <;> intro h28 q28
 refine ac ?_
 refine ac ?_
 · refine bool_eq ?_; unfold wordB; rw [all_hit (p := letterB [45, 95, 46]) hx_k (by rw [letter_eq]; unfold letN; simp; omega)]; rfl
 refine ac ?_
 refine ac ?_
 exact Fin.fam_same (k + 1) ⟨⟨hk_k, step_no (p := fun c => !letterB [45, 95, 46] c) hx_k (by rw [letter_eq]; unfold letN; simp; omega) hinv_k⟩, by omega⟩ ⟨⟨_, rfl, int_succ k⟩, ke rfl, trivial⟩
 refine ac ?_
 refine wk3 0 3 55 rfl ?_
 refine ac ?_
 refine ac ?_
 exact Fin.fam_same (k + 1) ⟨⟨hk_k, step_no (p := fun c => !letterB [45, 95, 46] c) hx_k (by rw [letter_eq]; unfold letN; simp; omega) hinv_k⟩, by omega⟩ ⟨⟨_, rfl, int_succ k⟩, ke rfl, trivial⟩
 refine ac ?_
 refine wk3 0 3 55 rfl ?_
 refine ac ?_
 refine ac ?_
 exact Fin.fam_same (k + 1) ⟨⟨hk_k, step_no (p := fun c => !letterB [45, 95, 46] c) hx_k (by rw [letter_eq]; unfold letN; simp; omega) hinv_k⟩, by omega⟩ ⟨⟨_, rfl, int_succ k⟩, ke rfl, trivial⟩
 refine ac ?_
 refine Ch.cs 44 rfl ?_ ?_ <;> intro h29 q29
 refine ac ?_
 refine Ch.cs 48 rfl ?_ ?_ <;> intro h30 q30
 refine ac ?_
 refine Ch.cs 52 rfl ?_ ?_ <;> intro h31 q31
 refine ac ?_
 refine wk3 0 3 55 rfl ?_
 refine Tr.cn rfl ?_ ?_ <;> intro h32 q32
 refine ac ?_
 refine ac ?_
 · refine bool_eq ?_; unfold wordB; rw [all_hit (p := letterB [45, 95, 46]) hx_k (by rw [letter_eq]; unfold letN; simp; omega)]; rfl
 refine ac ?_
 refine ac ?_
 exact Fin.fam_same (k + 1) ⟨⟨hk_k, step_no (p := fun c => !letterB [45, 95, 46] c) hx_k (by rw [letter_eq]; unfold letN; simp; omega) hinv_k⟩, by omega⟩ ⟨⟨_, rfl, int_succ k⟩, ke rfl, trivial⟩
 refine ac ?_
 refine wk3 0 3 55 rfl ?_
 refine ac ?_
 refine ac ?_
 exact Fin.fam_same (k + 1) ⟨⟨hk_k, step_no (p := fun c => !letterB [45, 95, 46] c) hx_k (by rw [letter_eq]; unfold letN; simp; omega) hinv_k⟩, by omega⟩ ⟨⟨_, rfl, int_succ k⟩, ke rfl, trivial⟩
 refine ac ?_
 refine wk3 0 3 55 rfl ?_
 refine ac ?_
 refine ac ?_
 exact Fin.fam_same (k + 1) ⟨⟨hk_k, step_no (p := fun c => !letterB [45, 95, 46] c) hx_k (by rw [letter_eq]; unfold letN; simp; omega) hinv_k⟩, by omega⟩ ⟨⟨_, rfl, int_succ k⟩, ke rfl, trivial⟩
 refine ac ?_
 refine wk3 0 3 55 rfl ?_
 refine ac ?_
 refine ac ?_
 exact Fin.fam_same (k + 1) ⟨⟨hk_k, step_no (p := fun c => !letterB [45, 95, 46] c) hx_k (by rw [letter_eq]; unfold letN; simp; omega) hinv_k⟩, by omega⟩ ⟨⟨_, rfl, int_succ k⟩, ke rfl, trivial⟩
 refine ac ?_
 refine Ch.cs 36 rfl ?_ ?_ <;> intro h33 q33
 refine ac ?_
 refine Ch.cs 39 rfl ?_ ?_ <;> intro h34 q34
 refine ac ?_
 refine Ch.cs 48 rfl ?_ ?_ <;> intro h35 q35
 refine ac ?_
 refine Ch.cs 52 rfl ?_ ?_ <;> intro h36 q36
 refine ac ?_
 refine wk3 0 3 55 rfl ?_
 refine Tr.cn rfl ?_ ?_ <;> intro h37 q37
 refine ac ?_
 refine ac ?_
 · refine bool_eq ?_; unfold wordB; rw [all_hit (p := letterB [45, 95, 46]) hx_k (by rw [letter_eq]; unfold letN; simp; omega)]; rfl
 refine ac ?_
 refine ac ?_
 exact Fin.fam_same (k + 1) ⟨⟨hk_k, step_no (p := fun c => !letterB [45, 95, 46] c) hx_k (by rw [letter_eq]; unfold letN; simp; omega) hinv_k⟩, by omega⟩ ⟨⟨_, rfl, int_succ k⟩, ke rfl, trivial⟩
 refine ac ?_
 refine wk3 0 3 55 rfl ?_
 refine ac ?_
 refine ac ?_
 exact Fin.fam_same (k + 1) ⟨⟨hk_k, step_no (p := fun c => !letterB [45, 95, 46] c) hx_k (by rw [letter_eq]; unfold letN; simp; omega) hinv_k⟩, by omega⟩ ⟨⟨_, rfl, int_succ k⟩, ke rfl, trivial⟩
 refine ac ?_
 refine wk3 0 3 55 rfl ?_
 refine ac ?_
 refine ac ?_
 exact Fin.fam_same (k + 1) ⟨⟨hk_k, step_no (p := fun c => !letterB [45, 95, 46] c) hx_k (by rw [letter_eq]; unfold letN; simp; omega) hinv_k⟩, by omega⟩ ⟨⟨_, rfl, int_succ k⟩, ke rfl, trivial⟩
 refine ac ?_
 refine Ch.cs 44 rfl ?_ ?_ <;> intro h38 q38
 refine ac ?_
 refine Ch.cs 48 rfl ?_ ?_ <;> intro h39 q39
 refine ac ?_
 refine Ch.cs 52 rfl ?_ ?_ <;> intro h40 q40
 refine ac ?_
 refine wk3 0 3 55 rfl ?_
 refine Tr.cn rfl ?_ ?_ <;> intro h41 q41
 refine ac ?_
 refine ac ?_
 · refine bool_eq ?_; unfold wordB; rw [all_hit (p := letterB [45, 95, 46]) hx_k (by rw [letter_eq]; unfold letN; simp; omega)]; rfl
 refine ac ?_
 refine ac ?_
 exact Fin.fam_same (k + 1) ⟨⟨hk_k, step_no (p := fun c => !letterB [45, 95, 46] c) hx_k (by rw [letter_eq]; unfold letN; simp; omega) hinv_k⟩, by omega⟩ ⟨⟨_, rfl, int_succ k⟩, ke rfl, trivial⟩
 refine ac ?_
 refine wk3 0 3 55 rfl ?_
 refine ac ?_
 refine ac ?_
 exact Fin.fam_same (k + 1) ⟨⟨hk_k, step_no (p := fun c => !letterB [45, 95, 46] c) hx_k (by rw [letter_eq]; unfold letN; simp; omega) hinv_k⟩, by omega⟩ ⟨⟨_, rfl, int_succ k⟩, ke rfl, trivial⟩
 refine ac ?_
 refine wk3 0 3 55 rfl ?_
 refine ac ?_
 refine ac ?_
 exact Fin.fam_same (k + 1) ⟨⟨hk_k, step_no (p := fun c => !letterB [45, 95, 46] c) hx_k (by rw [letter_eq]; unfold letN; simp; omega) hinv_k⟩, by omega⟩ ⟨⟨_, rfl, int_succ k⟩, ke rfl, trivial⟩
 refine ac ?_
 refine wk3 0 3 55 rfl ?_
 refine ac ?_
 refine ac ?_
 exact Fin.fam_same (k + 1) ⟨⟨hk_k, step_no (p := fun c => !letterB [45, 95, 46] c) hx_k (by rw [letter_eq]; unfold letN; simp; omega) hinv_k⟩, by omega⟩ ⟨⟨_, rfl, int_succ k⟩, ke rfl, trivial⟩
 refine ac ?_
 refine wk3 0 3 55 rfl ?_
 refine ac ?_
 refine ac ?_
 exact Fin.fam_same (k + 1) ⟨⟨hk_k, step_no (p := fun c => !letterB [45, 95, 46] c) hx_k (by rw [letter_eq]; unfold letN; simp; omega) hinv_k⟩, by omega⟩ ⟨⟨_, rfl, int_succ k⟩, ke rfl, trivial⟩
 refine ac ?_
 refine wk3 0 3 55 rfl ?_
 refine ac ?_
 refine ac ?_
 exact Fin.fam_same (k + 1) ⟨⟨hk_k, step_no (p := fun c => !letterB [45, 95, 46] c) hx_k (by rw [letter_eq]; unfold letN; simp; omega) hinv_k⟩, by omega⟩ ⟨⟨_, rfl, int_succ k⟩, ke rfl, trivial⟩
 have he_k : k = (s).length := by have := ge_of_dec h3; omega
 subst he_k
 refine ac ?_
 refine ac ?_
 refine ac ?_
 · refine bool_eq ?_; unfold wordB; rw [all_end hinv_k, Bool.true_and]; symm; rw [decide_eq_true_eq]; omega
theorem w_R2use {a b : Int}  : Fun Tryz.prog 218 [int a, int b] (agg [int a, int b]) := by
 refine fo Tryz.func218 rfl ⟨rfl, rfl⟩ fun M0 w0 => (Tr.seq (Tr.regT ?_))
 refine TO.alloc rfl rfl (by decide) rfl z24 zo24 (fun b1 => ?_)
 refine ap ?_
 refine ap ?_
 refine Tr.ret (Fin.retX1 rfl (RVal.cell 0 rfl rfl agg24 sz24 rfl (Pr.le_refl _)) ?_)
 · exact Pr.le_refl _
theorem w_R2suite {a l m x1 y1 x2 y2 x3 y3 x4 y4 : Int} {s : List UInt8}  : Fun Tryz.prog 219 [int a, str s, agg [int x1, int y1], agg [int x2, int y2], agg [int x3, int y3], agg [int x4, int y4], int l, int m] (agg anyRow) := by
 refine Fun.of Tryz.func219 rfl rfl (by exact Nat.le_of_ble_eq_true rfl) fun M0 w0 => ?_
 refine Tr.seq (Tr.regT ?_)
 iterate 4 refine tp rfl (ok_box rfl (VL.le (vl rfl) (agg_cellsP _))) ?_
 refine TO.alloc rfl rfl (by decide) rfl z170 zo170 (fun b1 => ?_)
 refine TO.nil (Fin.go (Tr.seq (Tr.regT (tm rfl (tm rfl ?_)))))
 iterate 4 refine tp rfl (ok_loadA rfl agg24 sz24 (vl rfl) rfl rfl) ?_
 refine tm rfl (tm rfl (tp rfl (ok_build (rows := [(0, [_]), (1, [_]), (2, _), (3, _), (4, _), (5, _), (6, [_]), (7, [_])]) rfl bl170 zo170 ⟨⟨rfl, (VL.le (vl rfl) (one_cellsP _))⟩, ⟨⟨rfl, (VL.le (vl rfl) (one_cellsP _))⟩, ⟨⟨rfl, (VL.le (vl rfl) (agg_cellsP _))⟩, ⟨⟨rfl, (VL.le (vl rfl) (agg_cellsP _))⟩, ⟨⟨rfl, (VL.le (vl rfl) (agg_cellsP _))⟩, ⟨⟨rfl, (VL.le (vl rfl) (agg_cellsP _))⟩, ⟨⟨rfl, (VL.le (vl rfl) (one_cellsP _))⟩, ⟨⟨rfl, (VL.le (vl rfl) (one_cellsP _))⟩, trivial⟩⟩⟩⟩⟩⟩⟩⟩ rfl) (TO.re 25 (agg anyRow) rfl (agg_any rfl) (TO.store_all 0 rfl rfl rfl (vl rfl) (VL.le (vl rfl) (agg_cellsP _)) rfl sz170 rfl rfl (TO.nil (Fin.go (wk1 16 rfl (Tr.ret (Fin.retX1 rfl (RVal.cell 0 rfl rfl agg170 sz170 rfl (Pr.le_refl _)) ?_)))))))))
 · exact Pr.le_refl _
theorem w_R2Suites   : Fun Tryz.prog 179 [] (slice 12 anyRows) := by
 refine fo Tryz.func179 rfl ⟨rfl, rfl⟩ fun M0 w0 => ?_
 refine ac ?_
 refine Tr.seq (Tr.regT (tp rfl (kc2 (w_R2use) rfl rfl rfl) (tp rfl (kc2 (w_R2use) rfl rfl rfl) (tp rfl (ok_build (rows := []) rfl bl24 zo24 trivial rfl) ?_))))
 refine TO.alloc rfl rfl (by decide) rfl z24 zo24 (fun b1 => ?_)
 refine TO.alloc rfl rfl (by decide) rfl z24 zo24 (fun b2 => ?_)
 refine TO.alloc rfl rfl (by decide) rfl z24 zo24 (fun b3 => ?_)
 refine sf 2 1 ⟨rfl, rfl, rfl⟩ rfl rfl rfl rfl ?_
 refine sf 1 2 ⟨rfl, rfl, rfl⟩ rfl rfl rfl rfl ?_
 refine sf 0 3 ⟨rfl, rfl, rfl⟩ rfl rfl rfl rfl ?_
 refine ao ?_
 refine Tr.seq (Tr.regT (tp rfl (kc2 (w_R2use) rfl rfl rfl) (tp rfl (kc2 (w_R2use) rfl rfl rfl) ?_)))
 refine TO.alloc rfl rfl (by decide) rfl z24 zo24 (fun b4 => ?_)
 refine TO.alloc rfl rfl (by decide) rfl z24 zo24 (fun b5 => ?_)
 refine sf 1 4 ⟨rfl, rfl, rfl⟩ rfl rfl rfl rfl ?_
 refine sf 0 5 ⟨rfl, rfl, rfl⟩ rfl rfl rfl rfl ?_
 refine ao ?_
 refine wk5 1 2 3 4 5 rfl (Tr.seq (Tr.regT (tp rfl (kc2 (w_R2use) rfl rfl rfl) (tp rfl (kc2 (w_R2use) rfl rfl rfl) (tp rfl (kc2 (w_R2use) rfl rfl rfl) ?_)))))
 refine TO.alloc rfl rfl (by decide) rfl z24 zo24 (fun b6 => ?_)
 refine TO.alloc rfl rfl (by decide) rfl z24 zo24 (fun b7 => ?_)
 refine TO.alloc rfl rfl (by decide) rfl z24 zo24 (fun b8 => ?_)
 refine sf 2 6 ⟨rfl, rfl, rfl⟩ rfl rfl rfl rfl ?_
 refine sf 1 7 ⟨rfl, rfl, rfl⟩ rfl rfl rfl rfl ?_
 refine sf 0 8 ⟨rfl, rfl, rfl⟩ rfl rfl rfl rfl ?_
 refine ao ?_
 refine wk8 1 2 3 4 5 6 7 8 rfl (Tr.seq (Tr.regT ?_))
 iterate 4 refine tp rfl (kc2 (w_R2use) rfl rfl rfl) ?_
 refine TO.alloc rfl rfl (by decide) rfl z24 zo24 (fun b9 => ?_)
 refine TO.alloc rfl rfl (by decide) rfl z24 zo24 (fun b10 => ?_)
 refine TO.alloc rfl rfl (by decide) rfl z24 zo24 (fun b11 => ?_)
 refine TO.alloc rfl rfl (by decide) rfl z24 zo24 (fun b12 => ?_)
 refine sf 3 9 ⟨rfl, rfl, rfl⟩ rfl rfl rfl rfl ?_
 refine sf 2 10 ⟨rfl, rfl, rfl⟩ rfl rfl rfl rfl ?_
 refine sf 1 11 ⟨rfl, rfl, rfl⟩ rfl rfl rfl rfl ?_
 refine sf 0 12 ⟨rfl, rfl, rfl⟩ rfl rfl rfl rfl ?_
 refine ao ?_
 refine wk12 1 2 3 4 5 6 7 8 9 10 11 12 rfl (Tr.seq (Tr.regT (tp rfl (kc2 (w_R2use) rfl rfl rfl) (tp rfl (kc2 (w_R2use) rfl rfl rfl) ?_))))
 refine TO.alloc rfl rfl (by decide) rfl z24 zo24 (fun b13 => ?_)
 refine TO.alloc rfl rfl (by decide) rfl z24 zo24 (fun b14 => ?_)
 refine sf 1 13 ⟨rfl, rfl, rfl⟩ rfl rfl rfl rfl ?_
 refine sf 0 14 ⟨rfl, rfl, rfl⟩ rfl rfl rfl rfl ?_
 refine ao ?_
 refine wk14 1 2 3 4 5 6 7 8 9 10 11 12 13 14 rfl ?_
 refine ac ?_
 refine co rfl (ok_call rfl (w_R2suite) ⟨ke rfl, ke rfl, ke rfl, ke rfl, ke rfl, ke rfl, ke rfl, ke rfl, trivial⟩) ?_
 refine ac ?_
 refine co rfl (ok_call rfl (w_R2suite) ⟨ke rfl, ke rfl, ke rfl, ke rfl, ke rfl, ke rfl, ke rfl, ke rfl, trivial⟩) ?_
 refine ac ?_
 refine co rfl (ok_call rfl (w_R2suite) ⟨ke rfl, ke rfl, ke rfl, ke rfl, ke rfl, ke rfl, ke rfl, ke rfl, trivial⟩) (co rfl (kc2 (w_R2use) rfl rfl rfl) (co rfl (kc2 (w_R2use) rfl rfl rfl) ?_))
 refine ac ?_
 refine co rfl (ok_call rfl (w_R2suite) ⟨ke rfl, ke rfl, ke rfl, ke rfl, ke rfl, ke rfl, ke rfl, ke rfl, trivial⟩) (co rfl (kc2 (w_R2use) rfl rfl rfl) ?_)
 refine ac ?_
 refine co rfl (ok_call rfl (w_R2suite) ⟨ke rfl, ke rfl, ke rfl, ke rfl, ke rfl, ke rfl, ke rfl, ke rfl, trivial⟩) ?_
 refine ac ?_
 refine co rfl (ok_call rfl (w_R2suite) ⟨ke rfl, ke rfl, ke rfl, ke rfl, ke rfl, ke rfl, ke rfl, ke rfl, trivial⟩) (co rfl (kc2 (w_R2use) rfl rfl rfl) ?_)
 refine ac ?_
 refine co rfl (ok_call rfl (w_R2suite) ⟨ke rfl, ke rfl, ke rfl, ke rfl, ke rfl, ke rfl, ke rfl, ke rfl, trivial⟩) ?_
 refine ac ?_
 refine co rfl (ok_call rfl (w_R2suite) ⟨ke rfl, ke rfl, ke rfl, ke rfl, ke rfl, ke rfl, ke rfl, ke rfl, trivial⟩) (co rfl (ok_loadA rfl agg24 sz24 (vl rfl) rfl rfl) (co rfl (kc2 (w_R2use) rfl rfl rfl) (co rfl (kc2 (w_R2use) rfl rfl rfl) (co rfl (ok_loadA rfl agg24 sz24 (vl rfl) rfl rfl) (co rfl (ok_call rfl (w_R2suite) ⟨ke rfl, ke rfl, ke rfl, ke rfl, ke rfl, ke rfl, ke rfl, ke rfl, trivial⟩) ?_)))))
 refine ac ?_
 refine co rfl (ok_call rfl (w_R2suite) ⟨ke rfl, ke rfl, ke rfl, ke rfl, ke rfl, ke rfl, ke rfl, ke rfl, trivial⟩) (co rfl (kc2 (w_R2use) rfl rfl rfl) (co rfl (kc2 (w_R2use) rfl rfl rfl) ?_))
 refine ac ?_
 refine co rfl (ok_call rfl (w_R2suite) ⟨ke rfl, ke rfl, ke rfl, ke rfl, ke rfl, ke rfl, ke rfl, ke rfl, trivial⟩) ?_
 refine ac ?_
 refine co rfl (ok_call rfl (w_R2suite) ⟨ke rfl, ke rfl, ke rfl, ke rfl, ke rfl, ke rfl, ke rfl, ke rfl, trivial⟩) ?_
 refine ac ?_
 refine co rfl (ok_call rfl (w_R2suite) ⟨ke rfl, ke rfl, ke rfl, ke rfl, ke rfl, ke rfl, ke rfl, ke rfl, trivial⟩) ?_
 refine ac ?_
 refine co rfl (ok_call rfl (w_R2suite) ⟨ke rfl, ke rfl, ke rfl, ke rfl, ke rfl, ke rfl, ke rfl, ke rfl, trivial⟩) ?_
 refine ac ?_
 refine co rfl (ok_call rfl (w_R2suite) ⟨ke rfl, ke rfl, ke rfl, ke rfl, ke rfl, ke rfl, ke rfl, ke rfl, trivial⟩) (co rfl (kc2 (w_R2use) rfl rfl rfl) ?_)
 refine ac ?_
 refine co rfl (ok_call rfl (w_R2suite) ⟨ke rfl, ke rfl, ke rfl, ke rfl, ke rfl, ke rfl, ke rfl, ke rfl, trivial⟩) (co rfl (ok_buildSlice (xs := [.tmp 33, .tmp 38, .tmp 43, .tmp 48, .tmp 53, .tmp 58, .tmp 63, .tmp 68, .tmp 73, .tmp 78, .tmp 83, .tmp 88, .tmp 93, .tmp 98, .tmp 103, .tmp 108]) (rows := anyRows) rfl rfl Tryz.underlying205 sz170 z170 rfl (by decide) ⟨⟨(by exact rfl), VL.le (vl rfl) (agg_cellsP _)⟩, ⟨⟨(by exact rfl), VL.le (vl rfl) (agg_cellsP _)⟩, ⟨⟨(by exact rfl), VL.le (vl rfl) (agg_cellsP _)⟩, ⟨⟨(by exact rfl), VL.le (vl rfl) (agg_cellsP _)⟩, ⟨⟨(by exact rfl), VL.le (vl rfl) (agg_cellsP _)⟩, ⟨⟨(by exact rfl), VL.le (vl rfl) (agg_cellsP _)⟩, ⟨⟨(by exact rfl), VL.le (vl rfl) (agg_cellsP _)⟩, ⟨⟨(by exact rfl), VL.le (vl rfl) (agg_cellsP _)⟩, ⟨⟨(by exact rfl), VL.le (vl rfl) (agg_cellsP _)⟩, ⟨⟨(by exact rfl), VL.le (vl rfl) (agg_cellsP _)⟩, ⟨⟨(by exact rfl), VL.le (vl rfl) (agg_cellsP _)⟩, ⟨⟨(by exact rfl), VL.le (vl rfl) (agg_cellsP _)⟩, ⟨⟨(by exact rfl), VL.le (vl rfl) (agg_cellsP _)⟩, ⟨⟨(by exact rfl), VL.le (vl rfl) (agg_cellsP _)⟩, ⟨⟨(by exact rfl), VL.le (vl rfl) (agg_cellsP _)⟩, ⟨⟨(by exact rfl), VL.le (vl rfl) (agg_cellsP _)⟩, trivial⟩⟩⟩⟩⟩⟩⟩⟩⟩⟩⟩⟩⟩⟩⟩⟩ (by decide)) ?_)
 refine ac ?_
 refine wk1 0 rfl ?_
 refine ac ?_
 · exact full_le _ _
theorem w_R2Suite {code : Int}  : Fun Tryz.prog 125 [int code] (tup [agg anyRow, int (if 1 ≤ code ∧ code ≤ 16 then 0 else 8)]) := by
 refine fo Tryz.func125 rfl ⟨rfl, rfl⟩ fun M0 w0 => (Tr.seq (Tr.regT ?_))
 refine TO.alloc rfl rfl (by decide) rfl z170 zo170 (fun b1 => ?_)
 refine ap ?_
 refine ac ?_
 refine Ch.cs 6 rfl ?_ ?_ <;> intro h1 q1
 refine ac ?_
 refine Tr.cond rfl (fun _ => ?_) (fun h => nomatch h)
 refine Tr.seq (Tr.regT (tp rfl (ok_build (rows := []) rfl bl170 zo170 trivial rfl) (TO.store_all 0 rfl rfl rfl (vl rfl) (VL.le (vl rfl) (agg_cellsP _)) rfl sz170 rfl rfl (tm rfl (TO.nil (Fin.go (Tr.ret (Fin.then_ret (Fin.retX2 rfl (RVal.cell 0 rfl rfl agg170 sz170 rfl (Pr.le_refl _)) (RVal.tmp rfl (Pr.le_refl _)) ?_)))))))))
 · exact tup_le ⟨agg_any rfl, int_eq (by rw [if_neg]; simp_all; omega), trivial⟩
 refine ac ?_
 refine Tr.cn rfl ?_ ?_ <;> intro h2 q2
 refine ap ?_
 refine Tr.ret (Fin.then_ret (Fin.retX2 rfl (RVal.cell 0 rfl rfl agg170 sz170 rfl (Pr.le_refl _)) (RVal.tmp rfl (Pr.le_refl _)) ?_))
 · exact tup_le ⟨agg_any rfl, int_eq (by rw [if_neg]; simp_all), trivial⟩
 have hin : 1 ≤ code ∧ code ≤ 16 := by omega
 refine ac ?_
 refine Tr.seq (Tr.regT (tp rfl (kc0 (w_R2Suites) rfl) ?_))
 refine ap ?_
 refine tp rfl (ok_indexAddr rfl Tryz.underlying205 sz170 (vl rfl) (vl rfl) (by omega) (any_rows (by omega))) ?_
 refine ap ?_
 refine wk2 2 3 rfl (Tr.ret (Fin.retX2 rfl (RVal.cell 0 rfl rfl agg170 sz170 rfl (Pr.le_refl _)) (RVal.tmp rfl (Pr.le_refl _)) ?_))
 · exact tup_le ⟨Pr.le_refl _, int_eq (by rw [if_pos hin]), trivial⟩
theorem w_R02Has {l : List Int} {v : Int}  : Fun Tryz.prog 112 [ints l, int v] (bool (l.any fun x => v == x)) := by
 refine fo Tryz.func112 rfl ⟨rfl, rfl⟩ fun M0 w0 => (Tr.lenm 0 rfl fun hlm_0 => ?_)
 refine ac ?_
 refine ac ?_
 refine Tr.block (Tr.loopw [(0, _), (1, _)] (kk2 rfl) (fun k : Nat => [(5, int ((k : Nat) : Int))]) (fun k : Nat => k ≤ (l).length ∧ ((l.take k).any (fun x => v == x) = false)) (fun k : Nat => (l).length - k) 0 (⟨Nat.zero_le _, rfl⟩) ⟨ke rfl, trivial⟩ ?_)
 rintro k ⟨hle_k, hinv_k⟩
 refine ac ?_
 refine Tr.cn rfl ?_ ?_ <;> intro h1 q1
 have hk_k : k < (l).length := lt_of_dec h1
 obtain ⟨x, hx_k⟩ := at_ hk_k
 refine ac ?_
 refine ac ?_
 refine co rfl (ok_indexAddr rfl Tryz.underlying22 sz3 (vl rfl) (vl rfl) (by omega) (by exact row_at (by assumption))) ?_
 refine ac ?_
 refine Tr.cn rfl ?_ ?_ <;> intro h2 q2
 refine ac ?_
 refine wk1 4 rfl ?_
 refine ac ?_
 · refine bool_eq ?_; symm; rw [List.any_eq_true]; exact ⟨_, List.mem_of_getElem? hx_k, by simp_all⟩
 refine ac ?_
 refine ac ?_
 exact Fin.fam_same (k + 1) ⟨⟨hk_k, (by rw [List.take_add_one, hx_k, List.any_append, hinv_k]; simp; omega)⟩, by omega⟩ ⟨⟨_, rfl, int_succ k⟩, ke rfl, ke rfl, trivial⟩
 have he_k : k = (l).length := by have := ge_of_dec h1; omega
 subst he_k
 refine ac ?_
 refine ac ?_
 refine ac ?_
 · refine bool_eq ?_; rw [List.take_length] at hinv_k; exact hinv_k.symm
theorem names_iff {l : List (List UInt8)} : namesB l = true ↔ (∀ j, j < l.length → nameAt l j = true) ∧ l.length ≤ 8 := by unfold namesB; rw [Bool.and_eq_true, allI_iff, decide_eq_true_eq]
theorem nameAt_of {l : List (List UInt8)} {k : Nat} {s : List UInt8} (hs : l[k]? = some s) (h1 : named s = true) (h2 : 0 < k → ∃ y, l[k - 1]? = some y ∧ Lib.compareBytes y s = -1) : nameAt l k = true := by
  unfold nameAt; rw [hs]; simp only [Option.getD_some, h1, Bool.true_and, Bool.or_eq_true, decide_eq_true_eq]
  rcases Nat.eq_zero_or_pos k with h0 | h0
  · exact .inl h0
  · obtain ⟨y, hy, hc⟩ := h2 h0; rw [hy]; exact .inr hc
theorem w_R3CheckG {c : Crt}  : Fun Tryz.prog 159 [agg (rowCr c)] (int (if validB c then 0 else 9)) := by
 refine fo Tryz.func159 rfl ⟨rfl, rfl⟩ fun M0 w0 => ?_
 refine ac ?_
 refine ac ?_
 refine Ch.cs 7 rfl ?_ ?_ <;> intro h1 q1
 refine ac ?_
 refine wk2 1 39 rfl ?_
 refine ac ?_
 refine ac ?_
 · refine int_eq (if_neg (fun hv => ?_)).symm; have vf := vf_of hv; obtain ⟨v_s0, v_s1, v_iss, v_sub, v_nm, v_key, v_k0, v_k1, v_hash, v_sk0, v_sk1, v_su0, v_su1, v_f0, v_ft, v_t1, v_p0, v_p1, v_ap⟩ := vf; have v_l8 := (names_iff.1 v_nm).2; unfold ofB at v_key v_hash; omega
 refine ac ?_
 refine Ch.cs 12 rfl ?_ ?_ <;> intro h2 q2
 refine ac ?_
 refine wk2 1 39 rfl ?_
 refine ac ?_
 refine ac ?_
 · refine int_eq (if_neg (fun hv => ?_)).symm; have vf := vf_of hv; obtain ⟨v_s0, v_s1, v_iss, v_sub, v_nm, v_key, v_k0, v_k1, v_hash, v_sk0, v_sk1, v_su0, v_su1, v_f0, v_ft, v_t1, v_p0, v_p1, v_ap⟩ := vf; have v_l8 := (names_iff.1 v_nm).2; unfold ofB at v_key v_hash; omega
 refine ac ?_
 refine cy h2 rfl (kc1 (w_RName) rfl rfl) ?_
 refine ac ?_
 refine Ch.cs 18 rfl ?_ ?_ <;> intro h3 q3
 refine ac ?_
 refine wk2 1 39 rfl ?_
 refine ac ?_
 refine ac ?_
 · refine int_eq (if_neg (fun hv => ?_)).symm; have vf := vf_of hv; obtain ⟨v_s0, v_s1, v_iss, v_sub, v_nm, v_key, v_k0, v_k1, v_hash, v_sk0, v_sk1, v_su0, v_su1, v_f0, v_ft, v_t1, v_p0, v_p1, v_ap⟩ := vf; have v_l8 := (names_iff.1 v_nm).2; unfold ofB at v_key v_hash; simp_all
 refine ac ?_
 refine cy h3 rfl (kc1 (w_RName) rfl rfl) ?_
 refine ac ?_
 refine Ch.cs 24 rfl ?_ ?_ <;> intro h4 q4
 refine ac ?_
 refine wk2 1 39 rfl ?_
 refine ac ?_
 refine ac ?_
 · refine int_eq (if_neg (fun hv => ?_)).symm; have vf := vf_of hv; obtain ⟨v_s0, v_s1, v_iss, v_sub, v_nm, v_key, v_k0, v_k1, v_hash, v_sk0, v_sk1, v_su0, v_su1, v_f0, v_ft, v_t1, v_p0, v_p1, v_ap⟩ := vf; have v_l8 := (names_iff.1 v_nm).2; unfold ofB at v_key v_hash; simp_all
 refine ac ?_
 refine cy h4 rfl (kc1 (w_Signature) rfl rfl) ?_
 refine ac ?_
 refine Ch.cs 30 rfl ?_ ?_ <;> intro h5 q5
 refine ac ?_
 refine wk2 1 39 rfl ?_
 refine ac ?_
 refine ac ?_
 · refine int_eq (if_neg (fun hv => ?_)).symm; have vf := vf_of hv; obtain ⟨v_s0, v_s1, v_iss, v_sub, v_nm, v_key, v_k0, v_k1, v_hash, v_sk0, v_sk1, v_su0, v_su1, v_f0, v_ft, v_t1, v_p0, v_p1, v_ap⟩ := vf; have v_l8 := (names_iff.1 v_nm).2; unfold ofB at v_key v_hash; simp_all
 refine ac ?_
 refine Ch.cs 35 rfl ?_ ?_ <;> intro h6 q6
 refine ac ?_
 refine wk2 1 39 rfl ?_
 refine ac ?_
 refine ac ?_
 · refine int_eq (if_neg (fun hv => ?_)).symm; have vf := vf_of hv; obtain ⟨v_s0, v_s1, v_iss, v_sub, v_nm, v_key, v_k0, v_k1, v_hash, v_sk0, v_sk1, v_su0, v_su1, v_f0, v_ft, v_t1, v_p0, v_p1, v_ap⟩ := vf; have v_l8 := (names_iff.1 v_nm).2; unfold ofB at v_key v_hash; omega
 refine ac ?_
 refine wk2 1 39 rfl ?_
 refine Tr.cn rfl ?_ ?_ <;> intro h7 q7
 refine ac ?_
 refine ac ?_
 · refine int_eq (if_neg (fun hv => ?_)).symm; have vf := vf_of hv; obtain ⟨v_s0, v_s1, v_iss, v_sub, v_nm, v_key, v_k0, v_k1, v_hash, v_sk0, v_sk1, v_su0, v_su1, v_f0, v_ft, v_t1, v_p0, v_p1, v_ap⟩ := vf; have v_l8 := (names_iff.1 v_nm).2; unfold ofB at v_key v_hash; omega
 refine ac ?_
 refine ac ?_
 refine co rfl (kc1 (w_RValid) rfl rfl) ?_
 refine ac ?_
 refine Ch.cs 44 rfl ?_ ?_ <;> intro h8 q8
 refine ac ?_
 refine wk2 1 67 rfl ?_
 refine ac ?_
 refine ac ?_
 · refine int_eq (if_neg (fun hv => ?_)).symm; have vf := vf_of hv; obtain ⟨v_s0, v_s1, v_iss, v_sub, v_nm, v_key, v_k0, v_k1, v_hash, v_sk0, v_sk1, v_su0, v_su1, v_f0, v_ft, v_t1, v_p0, v_p1, v_ap⟩ := vf; have v_l8 := (names_iff.1 v_nm).2; unfold ofB at v_key v_hash; simp_all; omega
 refine ac ?_
 refine cy h8 rfl (kc1 (w_RKind) rfl rfl) ?_
 refine ac ?_
 refine Ch.cs 51 rfl ?_ ?_ <;> intro h9 q9
 refine ac ?_
 refine wk2 1 67 rfl ?_
 refine ac ?_
 refine ac ?_
 · refine int_eq (if_neg (fun hv => ?_)).symm; have vf := vf_of hv; obtain ⟨v_s0, v_s1, v_iss, v_sub, v_nm, v_key, v_k0, v_k1, v_hash, v_sk0, v_sk1, v_su0, v_su1, v_f0, v_ft, v_t1, v_p0, v_p1, v_ap⟩ := vf; have v_l8 := (names_iff.1 v_nm).2; unfold ofB at v_key v_hash; simp_all
 refine ac ?_
 refine Ch.cs 56 rfl ?_ ?_ <;> intro h10 q10
 refine ac ?_
 refine wk2 1 67 rfl ?_
 refine ac ?_
 refine ac ?_
 · refine int_eq (if_neg (fun hv => ?_)).symm; have vf := vf_of hv; obtain ⟨v_s0, v_s1, v_iss, v_sub, v_nm, v_key, v_k0, v_k1, v_hash, v_sk0, v_sk1, v_su0, v_su1, v_f0, v_ft, v_t1, v_p0, v_p1, v_ap⟩ := vf; have v_l8 := (names_iff.1 v_nm).2; unfold ofB at v_key v_hash; omega
 refine ac ?_
 refine Ch.cs 63 rfl ?_ ?_ <;> intro h11 q11
 refine ac ?_
 refine wk2 1 67 rfl ?_
 refine ac ?_
 refine ac ?_
 · refine int_eq (if_neg (fun hv => ?_)).symm; have vf := vf_of hv; obtain ⟨v_s0, v_s1, v_iss, v_sub, v_nm, v_key, v_k0, v_k1, v_hash, v_sk0, v_sk1, v_su0, v_su1, v_f0, v_ft, v_t1, v_p0, v_p1, v_ap⟩ := vf; have v_l8 := (names_iff.1 v_nm).2; unfold ofB at v_key v_hash; omega
 refine ac ?_
 refine wk2 1 67 rfl ?_
 refine Tr.cn rfl ?_ ?_ <;> intro h12 q12
 refine ac ?_
 refine ac ?_
 · refine int_eq (if_neg (fun hv => ?_)).symm; have vf := vf_of hv; obtain ⟨v_s0, v_s1, v_iss, v_sub, v_nm, v_key, v_k0, v_k1, v_hash, v_sk0, v_sk1, v_su0, v_su1, v_f0, v_ft, v_t1, v_p0, v_p1, v_ap⟩ := vf; have v_l8 := (names_iff.1 v_nm).2; unfold ofB at v_key v_hash; omega
 refine ac ?_
 refine ac ?_
 refine Ch.cs 71 rfl ?_ ?_ <;> intro h13 q13
 refine ac ?_
 refine wk2 1 91 rfl ?_
 refine ac ?_
 refine ac ?_
 · refine int_eq (if_neg (fun hv => ?_)).symm; have vf := vf_of hv; obtain ⟨v_s0, v_s1, v_iss, v_sub, v_nm, v_key, v_k0, v_k1, v_hash, v_sk0, v_sk1, v_su0, v_su1, v_f0, v_ft, v_t1, v_p0, v_p1, v_ap⟩ := vf; have v_l8 := (names_iff.1 v_nm).2; unfold ofB at v_key v_hash; omega
 refine ac ?_
 refine Ch.cs 76 rfl ?_ ?_ <;> intro h14 q14
 refine ac ?_
 refine wk2 1 91 rfl ?_
 refine ac ?_
 refine ac ?_
 · refine int_eq (if_neg (fun hv => ?_)).symm; have vf := vf_of hv; obtain ⟨v_s0, v_s1, v_iss, v_sub, v_nm, v_key, v_k0, v_k1, v_hash, v_sk0, v_sk1, v_su0, v_su1, v_f0, v_ft, v_t1, v_p0, v_p1, v_ap⟩ := vf; have v_l8 := (names_iff.1 v_nm).2; unfold ofB at v_key v_hash; omega
 refine ac ?_
 refine Ch.cs 80 rfl ?_ ?_ <;> intro h15 q15
 refine ac ?_
 refine Ch.cs 86 rfl ?_ ?_ <;> intro h16 q16
 refine ac ?_
 refine wk2 1 91 rfl ?_
 refine ac ?_
 refine ac ?_
 · refine int_eq (if_neg (fun hv => ?_)).symm; have vf := vf_of hv; obtain ⟨v_s0, v_s1, v_iss, v_sub, v_nm, v_key, v_k0, v_k1, v_hash, v_sk0, v_sk1, v_su0, v_su1, v_f0, v_ft, v_t1, v_p0, v_p1, v_ap⟩ := vf; have v_l8 := (names_iff.1 v_nm).2; unfold ofB at v_key v_hash; simp_all
 refine ac ?_
 refine wk2 1 91 rfl ?_
 refine Tr.cn rfl ?_ ?_ <;> intro h17 q17
 refine ac ?_
 refine ac ?_
 · refine int_eq (if_neg (fun hv => ?_)).symm; have vf := vf_of hv; obtain ⟨v_s0, v_s1, v_iss, v_sub, v_nm, v_key, v_k0, v_k1, v_hash, v_sk0, v_sk1, v_su0, v_su1, v_f0, v_ft, v_t1, v_p0, v_p1, v_ap⟩ := vf; have v_l8 := (names_iff.1 v_nm).2; unfold ofB at v_key v_hash; omega
 refine ac ?_
 refine ac ?_
 refine Tr.block (Tr.loopw [(1, _)] ⟨ke rfl, trivial⟩ (fun k : Nat => [(3, int ((k : Nat) : Int))]) (fun k : Nat => k ≤ (c.names).length ∧ (∀ j, j < k → nameAt c.names j = true)) (fun k : Nat => (c.names).length - k) 0 (⟨Nat.zero_le _, fun j hj => absurd hj (by omega)⟩) ⟨ke rfl, trivial⟩ ?_)
 rintro k ⟨hle_k, hinv_k⟩
 refine ac ?_
 refine Tr.cn rfl ?_ ?_ <;> intro h18 q18
 have hk_k : k < (c.names).length := lt_of_dec h18
 obtain ⟨s, hx_k⟩ := at_ hk_k
 refine ac ?_
 refine ac ?_
 refine co rfl (ok_indexAddr rfl Tryz.underlying74 sz9 (vl rfl) (vl rfl) (by omega) (row_at hx_k)) (co rfl (kl1 rfl one9 rfl) (co rfl (kc1 (w_RName) rfl rfl) ?_))
 refine ac ?_
 refine Ch.cs 106 rfl ?_ ?_ <;> intro h19 q19
 refine ac ?_
 refine wk3 1 3 123 rfl ?_
 refine ac ?_
 refine ac ?_
 · refine int_eq (if_neg (fun hv => ?_)).symm; have vf := vf_of hv; obtain ⟨v_s0, v_s1, v_iss, v_sub, v_nm, v_key, v_k0, v_k1, v_hash, v_sk0, v_sk1, v_su0, v_su1, v_f0, v_ft, v_t1, v_p0, v_p1, v_ap⟩ := vf; have v_l8 := (names_iff.1 v_nm).2; unfold ofB at v_key v_hash; have hn_ := (names_iff.1 v_nm).1 k (by omega); unfold nameAt at hn_; simp_all
 refine ac ?_
 refine Ch.cs 109 rfl ?_ ?_ <;> intro h20 q20
 have hk00 : 0 < k := by simpa using h20
 obtain ⟨y, hy⟩ := at_ (l := c.names) (k := k - 1) (by omega)
 refine ac ?_
 refine cy h20 rfl (ok_indexAddr rfl Tryz.underlying74 sz9 (vl rfl) (vl rfl) (by omega) (by rw [show ((k : Nat) : Int) - 1 = ((k - 1 : Nat) : Int) by omega]; exact row_at hy)) ?_
 refine ac ?_
 refine cy h20 rfl (ok_indexAddr rfl Tryz.underlying74 sz9 (vl rfl) (vl rfl) (by omega) (row_at hx_k)) (cy h20 rfl (kl1 rfl one9 rfl) (cy h20 rfl (ok_ges rfl (vl rfl) (vl rfl)) ?_))
 refine ac ?_
 refine wk3 1 3 123 rfl ?_
 refine Tr.cn rfl ?_ ?_ <;> intro h21 q21
 refine ac ?_
 refine ac ?_
 · refine int_eq (if_neg (fun hv => ?_)).symm; have vf := vf_of hv; obtain ⟨v_s0, v_s1, v_iss, v_sub, v_nm, v_key, v_k0, v_k1, v_hash, v_sk0, v_sk1, v_su0, v_su1, v_f0, v_ft, v_t1, v_p0, v_p1, v_ap⟩ := vf; have v_l8 := (names_iff.1 v_nm).2; unfold ofB at v_key v_hash; have hn_ := (names_iff.1 v_nm).1 k (by omega); unfold nameAt at hn_; simp_all
 refine ac ?_
 refine ac ?_
 exact Fin.fam_same (k + 1) ⟨⟨hk_k, (fun j hj => by rcases Nat.lt_or_eq_of_le (Nat.le_of_lt_succ hj) with h_ | h_; exact hinv_k j h_; (subst h_; refine nameAt_of hx_k (by simp_all) (fun h0 => ?_); exact ⟨y, hy, by simp_all⟩))⟩, by omega⟩ ⟨⟨_, rfl, int_succ k⟩, ke rfl, trivial⟩
 have hk00 : ¬ 0 < k := by simpa using h20
 refine ac ?_
 refine wk3 1 3 123 rfl ?_
 refine ac ?_
 refine ac ?_
 exact Fin.fam_same (k + 1) ⟨⟨hk_k, (fun j hj => by rcases Nat.lt_or_eq_of_le (Nat.le_of_lt_succ hj) with h_ | h_; exact hinv_k j h_; (subst h_; refine nameAt_of hx_k (by simp_all) (fun h0 => ?_); exact absurd h0 hk00))⟩, by omega⟩ ⟨⟨_, rfl, int_succ k⟩, ke rfl, trivial⟩
 have he_k : k = (c.names).length := by have := ge_of_dec h18; omega
 subst he_k
 refine ac ?_
 refine ac ?_
 refine Ch.cs 128 rfl ?_ ?_ <;> intro h22 q22
 refine ac ?_
 refine wk1 145 rfl ?_
 refine ac ?_
 refine ac ?_
 · refine int_eq (if_neg (fun hv => ?_)).symm; have vf := vf_of hv; obtain ⟨v_s0, v_s1, v_iss, v_sub, v_nm, v_key, v_k0, v_k1, v_hash, v_sk0, v_sk1, v_su0, v_su1, v_f0, v_ft, v_t1, v_p0, v_p1, v_ap⟩ := vf; have v_l8 := (names_iff.1 v_nm).2; unfold ofB at v_key v_hash; omega
 refine ac ?_
 refine Ch.cs 134 rfl ?_ ?_ <;> intro h23 q23
 refine ac ?_
 refine wk1 145 rfl ?_
 refine ac ?_
 refine ac ?_
 · refine int_eq (if_neg (fun hv => ?_)).symm; have vf := vf_of hv; obtain ⟨v_s0, v_s1, v_iss, v_sub, v_nm, v_key, v_k0, v_k1, v_hash, v_sk0, v_sk1, v_su0, v_su1, v_f0, v_ft, v_t1, v_p0, v_p1, v_ap⟩ := vf; have v_l8 := (names_iff.1 v_nm).2; unfold ofB at v_key v_hash; omega
 refine ac ?_
 refine Ch.cs 140 rfl ?_ ?_ <;> intro h24 q24
 refine ac ?_
 refine wk1 145 rfl ?_
 refine ac ?_
 refine ac ?_
 · refine int_eq (if_neg (fun hv => ?_)).symm; have vf := vf_of hv; obtain ⟨v_s0, v_s1, v_iss, v_sub, v_nm, v_key, v_k0, v_k1, v_hash, v_sk0, v_sk1, v_su0, v_su1, v_f0, v_ft, v_t1, v_p0, v_p1, v_ap⟩ := vf; have v_l8 := (names_iff.1 v_nm).2; unfold ofB at v_key v_hash; omega
 refine ac ?_
 refine wk1 145 rfl ?_
 refine Tr.cn rfl ?_ ?_ <;> intro h25 q25
 refine ac ?_
 refine ac ?_
 · refine int_eq (if_neg (fun hv => ?_)).symm; have vf := vf_of hv; obtain ⟨v_s0, v_s1, v_iss, v_sub, v_nm, v_key, v_k0, v_k1, v_hash, v_sk0, v_sk1, v_su0, v_su1, v_f0, v_ft, v_t1, v_p0, v_p1, v_ap⟩ := vf; have v_l8 := (names_iff.1 v_nm).2; unfold ofB at v_key v_hash; omega
 refine ac ?_
 refine ac ?_
 refine ac ?_
 · refine int_eq (if_pos (of_vf ⟨by omega, by omega, by simp_all, by simp_all, names_iff.2 ⟨hinv_k, by omega⟩, by unfold ofB; simp_all, by omega, by omega, by unfold ofB; simp_all, by omega, by omega, by omega, by omega, by omega, by omega, by omega, by omega, by omega, by right; omega⟩)).symm
 refine ac ?_
 refine wk2 1 91 rfl ?_
 refine Tr.cn rfl ?_ ?_ <;> intro h26 q26
 refine ac ?_
 refine ac ?_
 · refine int_eq (if_neg (fun hv => ?_)).symm; have vf := vf_of hv; obtain ⟨v_s0, v_s1, v_iss, v_sub, v_nm, v_key, v_k0, v_k1, v_hash, v_sk0, v_sk1, v_su0, v_su1, v_f0, v_ft, v_t1, v_p0, v_p1, v_ap⟩ := vf; have v_l8 := (names_iff.1 v_nm).2; unfold ofB at v_key v_hash; omega
 refine ac ?_
 refine ac ?_
 refine Tr.block (Tr.loopw [(1, _)] ⟨ke rfl, trivial⟩ (fun k : Nat => [(3, int ((k : Nat) : Int))]) (fun k : Nat => k ≤ (c.names).length ∧ (∀ j, j < k → nameAt c.names j = true)) (fun k : Nat => (c.names).length - k) 0 (⟨Nat.zero_le _, fun j hj => absurd hj (by omega)⟩) ⟨ke rfl, trivial⟩ ?_)
 rintro k ⟨hle_k, hinv_k⟩
 refine ac ?_
 refine Tr.cn rfl ?_ ?_ <;> intro h27 q27
 have hk_k : k < (c.names).length := lt_of_dec h27
 obtain ⟨s, hx_k⟩ := at_ hk_k
 refine ac ?_
 refine ac ?_
 refine co rfl (ok_indexAddr rfl Tryz.underlying74 sz9 (vl rfl) (vl rfl) (by omega) (row_at hx_k)) (co rfl (kl1 rfl one9 rfl) (co rfl (kc1 (w_RName) rfl rfl) ?_))
 refine ac ?_
 refine Ch.cs 106 rfl ?_ ?_ <;> intro h28 q28
 refine ac ?_
 refine wk3 1 3 123 rfl ?_
 refine ac ?_
 refine ac ?_
 · refine int_eq (if_neg (fun hv => ?_)).symm; have vf := vf_of hv; obtain ⟨v_s0, v_s1, v_iss, v_sub, v_nm, v_key, v_k0, v_k1, v_hash, v_sk0, v_sk1, v_su0, v_su1, v_f0, v_ft, v_t1, v_p0, v_p1, v_ap⟩ := vf; have v_l8 := (names_iff.1 v_nm).2; unfold ofB at v_key v_hash; have hn_ := (names_iff.1 v_nm).1 k (by omega); unfold nameAt at hn_; simp_all
 refine ac ?_
 refine Ch.cs 109 rfl ?_ ?_ <;> intro h29 q29
 have hk00 : 0 < k := by simpa using h29
 obtain ⟨y, hy⟩ := at_ (l := c.names) (k := k - 1) (by omega)
 refine ac ?_
 refine cy h29 rfl (ok_indexAddr rfl Tryz.underlying74 sz9 (vl rfl) (vl rfl) (by omega) (by rw [show ((k : Nat) : Int) - 1 = ((k - 1 : Nat) : Int) by omega]; exact row_at hy)) ?_
 refine ac ?_
 refine cy h29 rfl (ok_indexAddr rfl Tryz.underlying74 sz9 (vl rfl) (vl rfl) (by omega) (row_at hx_k)) (cy h29 rfl (kl1 rfl one9 rfl) (cy h29 rfl (ok_ges rfl (vl rfl) (vl rfl)) ?_))
 refine ac ?_
 refine wk3 1 3 123 rfl ?_
 refine Tr.cn rfl ?_ ?_ <;> intro h30 q30
 refine ac ?_
 refine ac ?_
 · refine int_eq (if_neg (fun hv => ?_)).symm; have vf := vf_of hv; obtain ⟨v_s0, v_s1, v_iss, v_sub, v_nm, v_key, v_k0, v_k1, v_hash, v_sk0, v_sk1, v_su0, v_su1, v_f0, v_ft, v_t1, v_p0, v_p1, v_ap⟩ := vf; have v_l8 := (names_iff.1 v_nm).2; unfold ofB at v_key v_hash; have hn_ := (names_iff.1 v_nm).1 k (by omega); unfold nameAt at hn_; simp_all
 refine ac ?_
 refine ac ?_
 exact Fin.fam_same (k + 1) ⟨⟨hk_k, (fun j hj => by rcases Nat.lt_or_eq_of_le (Nat.le_of_lt_succ hj) with h_ | h_; exact hinv_k j h_; (subst h_; refine nameAt_of hx_k (by simp_all) (fun h0 => ?_); exact ⟨y, hy, by simp_all⟩))⟩, by omega⟩ ⟨⟨_, rfl, int_succ k⟩, ke rfl, trivial⟩
 have hk00 : ¬ 0 < k := by simpa using h29
 refine ac ?_
 refine wk3 1 3 123 rfl ?_
 refine ac ?_
 refine ac ?_
 exact Fin.fam_same (k + 1) ⟨⟨hk_k, (fun j hj => by rcases Nat.lt_or_eq_of_le (Nat.le_of_lt_succ hj) with h_ | h_; exact hinv_k j h_; (subst h_; refine nameAt_of hx_k (by simp_all) (fun h0 => ?_); exact absurd h0 hk00))⟩, by omega⟩ ⟨⟨_, rfl, int_succ k⟩, ke rfl, trivial⟩
 have he_k : k = (c.names).length := by have := ge_of_dec h27; omega
 subst he_k
 refine ac ?_
 refine ac ?_
 refine Ch.cs 128 rfl ?_ ?_ <;> intro h31 q31
 refine ac ?_
 refine wk1 145 rfl ?_
 refine ac ?_
 refine ac ?_
 · refine int_eq (if_neg (fun hv => ?_)).symm; have vf := vf_of hv; obtain ⟨v_s0, v_s1, v_iss, v_sub, v_nm, v_key, v_k0, v_k1, v_hash, v_sk0, v_sk1, v_su0, v_su1, v_f0, v_ft, v_t1, v_p0, v_p1, v_ap⟩ := vf; have v_l8 := (names_iff.1 v_nm).2; unfold ofB at v_key v_hash; omega
 refine ac ?_
 refine Ch.cs 134 rfl ?_ ?_ <;> intro h32 q32
 refine ac ?_
 refine wk1 145 rfl ?_
 refine ac ?_
 refine ac ?_
 · refine int_eq (if_neg (fun hv => ?_)).symm; have vf := vf_of hv; obtain ⟨v_s0, v_s1, v_iss, v_sub, v_nm, v_key, v_k0, v_k1, v_hash, v_sk0, v_sk1, v_su0, v_su1, v_f0, v_ft, v_t1, v_p0, v_p1, v_ap⟩ := vf; have v_l8 := (names_iff.1 v_nm).2; unfold ofB at v_key v_hash; omega
 refine ac ?_
 refine Ch.cs 140 rfl ?_ ?_ <;> intro h33 q33
 refine ac ?_
 refine wk1 145 rfl ?_
 refine ac ?_
 refine ac ?_
 · refine int_eq (if_neg (fun hv => ?_)).symm; have vf := vf_of hv; obtain ⟨v_s0, v_s1, v_iss, v_sub, v_nm, v_key, v_k0, v_k1, v_hash, v_sk0, v_sk1, v_su0, v_su1, v_f0, v_ft, v_t1, v_p0, v_p1, v_ap⟩ := vf; have v_l8 := (names_iff.1 v_nm).2; unfold ofB at v_key v_hash; omega
 refine ac ?_
 refine wk1 145 rfl ?_
 refine Tr.cn rfl ?_ ?_ <;> intro h34 q34
 refine ac ?_
 refine ac ?_
 · refine int_eq (if_neg (fun hv => ?_)).symm; have vf := vf_of hv; obtain ⟨v_s0, v_s1, v_iss, v_sub, v_nm, v_key, v_k0, v_k1, v_hash, v_sk0, v_sk1, v_su0, v_su1, v_f0, v_ft, v_t1, v_p0, v_p1, v_ap⟩ := vf; have v_l8 := (names_iff.1 v_nm).2; unfold ofB at v_key v_hash; omega
 refine ac ?_
 refine ac ?_
 refine ac ?_
 · refine int_eq (if_pos (of_vf ⟨by omega, by omega, by simp_all, by simp_all, names_iff.2 ⟨hinv_k, by omega⟩, by unfold ofB; simp_all, by omega, by omega, by unfold ofB; simp_all, by omega, by omega, by omega, by omega, by omega, by omega, by omega, by omega, by omega, by left; simp_all⟩)).symm
end Go.Proofs.YtppeeogffbpcbaaGreat
namespace Go.Proofs.YtppeeogffbpcbaaGreat
open Go Go.RowKit Cp

theorem and1 {a b : Bool} (h : (a && b) = true) : a = true := by simp at h; exact h.1
theorem and2 {a b : Bool} (h : (a && b) = true) : b = true := by simp at h; exact h.2
theorem pigeon : ∀ (n : Nat) (l : List Int), (∀ x ∈ l, 1 ≤ x ∧ x ≤ (n : Int)) → l.Nodup → l.length ≤ n
  | 0, l, h, _ => by
    cases l with
    | nil => exact Nat.le_refl _
    | cons a l => have := h a (List.mem_cons_self ..); omega
  | n + 1, l, h, hn => by
    have ih := pigeon n (l.erase ((n : Int) + 1)) (fun x hx => by
      have h1 := h x (List.mem_of_mem_erase hx)
      have h2 := (hn.mem_erase_iff.1 hx).1
      omega) (hn.erase _)
    rw [List.length_erase] at ih
    split at ih <;> omega
theorem suites_16 {l : List Int} (h : suitesB l = true) : l.length ≤ 16 := by
  refine pigeon 16 l (fun x hx => ?_) ?_
  · obtain ⟨j, hj⟩ := List.getElem?_of_mem hx
    have h1 := allI_iff.1 (show allI (suiteAt l) l.length = true from h) j (lt_of_at hj)
    unfold suiteAt at h1; rw [getD_at hj] at h1
    have := and1 h1
    simpa using this
  · refine List.pairwise_iff_getElem.2 fun i j hi hj hij he => ?_
    have := suites_one h (List.getElem?_eq_getElem hi) (by rw [he]; exact List.getElem?_eq_getElem hj)
    omega
theorem all_at {p : Int → Bool} {l : List Int} (h : ∀ j, j < l.length → p (l[j]?.getD 0) = true) : l.all p = true := List.all_eq_true.2 fun x hx => by
  obtain ⟨j, hj⟩ := List.getElem?_of_mem hx
  have := h j (lt_of_at hj)
  rw [getD_at hj] at this; exact this

theorem w_R5Right {alg bits id : Int} {l : List Crt}  : Fun Tryz.prog 126 [agg [int alg, int bits], int id, certs l] (bool (showsB alg bits id l)) := by
 refine fo Tryz.func126 rfl ⟨rfl, rfl⟩ fun M0 w0 => (Tr.lenm 2 rfl fun hlm_2 => ?_)
 refine ac ?_
 refine ac ?_
 refine co rfl (kc1 (w_Signature) rfl rfl) ?_
 refine ac ?_
 refine Ch.cs 11 rfl ?_ ?_ <;> intro h1 q1
 refine ac ?_
 refine wk4 1 2 3 23 rfl ?_
 refine ac ?_
 refine ac ?_
 · refine bool_eq ?_; rw [showsB_eq]; unfold ofB keyB; simp_all
 refine ac ?_
 refine Ch.cs 15 rfl ?_ ?_ <;> intro h2 q2
 refine ac ?_
 refine wk4 1 2 3 23 rfl ?_
 refine ac ?_
 refine ac ?_
 · refine bool_eq ?_; rw [showsB_eq]; unfold ofB keyB; simp_all; omega
 refine ac ?_
 refine Ch.cs 19 rfl ?_ ?_ <;> intro h3 q3
 refine ac ?_
 refine wk4 1 2 3 23 rfl ?_
 refine ac ?_
 refine ac ?_
 · refine bool_eq ?_; rw [showsB_eq]; unfold ofB keyB; simp_all; omega
 refine ac ?_
 refine wk4 1 2 3 23 rfl ?_
 refine Tr.cn rfl ?_ ?_ <;> intro h4 q4
 refine ac ?_
 refine ac ?_
 · refine bool_eq ?_; rw [showsB_eq]; unfold ofB keyB; simp_all; omega
 refine ac ?_
 refine ac ?_
 refine Tr.block (Tr.loopw [(1, _), (2, _), (3, _)] (kk3 rfl) (fun k : Nat => [(7, int ((k : Nat) : Int))]) (fun k : Nat => k ≤ (l).length ∧ (∀ j y, j < k → l[j]? = some y → (!validB y) = false)) (fun k : Nat => (l).length - k) 0 (⟨Nat.zero_le _, fun j y hj => absurd hj (by omega)⟩) ⟨ke rfl, trivial⟩ ?_)
 rintro k ⟨hle_k, hinv_k⟩
 refine ac ?_
 refine Tr.cn rfl ?_ ?_ <;> intro h5 q5
 have hk_k : k < (l).length := lt_of_dec h5
 obtain ⟨c, hx_k⟩ := at_ hk_k
 refine ac ?_
 refine ac ?_
 refine co rfl (ok_indexAddr rfl Tryz.underlying25 sz131 (vl rfl) (vl rfl) (by omega) (row_at hx_k)) (co rfl (ok_loadA rfl agg131 sz131 (vl rfl) rfl rfl) (co rfl (kc1 (w_R3CheckG) rfl rfl) ?_))
 refine ac ?_
 refine wk5 1 2 3 7 35 rfl ?_
 refine Tr.cn rfl ?_ ?_ <;> intro h6 q6
 refine ac ?_
 refine ac ?_
 · refine bool_eq ?_; rw [showsB_eq]; unfold ofB keyB; rw [all_hit (p := validB) hx_k (by simp_all)]; simp
 refine ac ?_
 refine ac ?_
 exact Fin.fam_same (k + 1) ⟨⟨hk_k, step_no (p := fun c => !validB c) hx_k (by simp_all) hinv_k⟩, by omega⟩ ⟨⟨_, rfl, int_succ k⟩, ke rfl, ke rfl, ke rfl, trivial⟩
 have he_k : k = (l).length := by have := ge_of_dec h5; omega
 subst he_k
 have hall := all_end hinv_k
 refine ac ?_
 refine ac ?_
 refine Ch.cs 39 rfl ?_ ?_ <;> intro h7 q7
 refine ac ?_
 refine wk1 6 rfl ?_
 refine ac ?_
 · refine bool_eq ?_; rw [showsB_eq]; unfold ofB keyB; rw [hall, headB_nil (by simp_all)]; simp_all
 obtain ⟨c0, hc0⟩ := at_ (l := l) (k := 0) (by have := h7; simp at this; exact List.length_pos_iff.2 this)
 refine cym h7 rfl ?_
 refine cy h7 rfl (ok_indexAddr rfl Tryz.underlying25 sz131 (vl rfl) (vl rfl) (by omega) (row_at (k := 0) hc0)) ?_
 refine ac ?_
 refine cy h7 rfl (ok_eq24 rfl (vl rfl) (vl rfl)) (cym h7 rfl ?_)
 refine Ch.cs 46 rfl ?_ ?_ <;> intro h8 q8
 refine cym h8 rfl ?_
 refine cy h8 rfl (ok_indexAddr rfl Tryz.underlying25 sz131 (vl rfl) (vl rfl) (by omega) (row_at (k := 0) hc0)) ?_
 refine ac ?_
 refine wk1 6 rfl ?_
 refine ac ?_
 · refine bool_eq ?_; rw [showsB_eq]; unfold ofB keyB; rw [hall, headB_at hc0]; clear hall hinv_k hc0; simp_all; omega
 refine ac ?_
 refine wk1 6 rfl ?_
 refine ac ?_
 · refine bool_eq ?_; rw [showsB_eq]; unfold ofB keyB; rw [hall, headB_at hc0]; clear hall hinv_k hc0; simp_all
theorem w_R9Check {e : Ept} (hsm : e.small) : Fun Tryz.prog 77 [agg (rowEp e)] (int (if eptB e then 0 else 19)) := by
 refine fo Tryz.func77 rfl ⟨rfl, rfl⟩ fun M0 w0 => ?_
 have hs3 := hsm.hashes
 clear hsm
 refine ac ?_
 refine ac ?_
 refine co rfl (kc1 (w_R6Word) rfl rfl) ?_
 refine ac ?_
 refine Ch.cs 13 rfl ?_ ?_ <;> intro h1 q1
 refine ac ?_
 refine wk2 1 47 rfl ?_
 refine ac ?_
 refine ac ?_
 · refine int_eq (if_neg (fun hv => ?_)).symm; have ok := eptB_iff.1 hv; have v1 := ok.name; have v2 := ok.least; have v3 := ok.lm; have v4 := ok.most; have v5 := suites_16 ok.suites; have v6 := ok.idl; have v7 := ok.ancl; simp_all
 refine ac ?_
 refine Ch.cs 18 rfl ?_ ?_ <;> intro h2 q2
 refine ac ?_
 refine wk2 1 47 rfl ?_
 refine ac ?_
 refine ac ?_
 · refine int_eq (if_neg (fun hv => ?_)).symm; have ok := eptB_iff.1 hv; have v1 := ok.name; have v2 := ok.least; have v3 := ok.lm; have v4 := ok.most; have v5 := suites_16 ok.suites; have v6 := ok.idl; have v7 := ok.ancl; omega
 refine ac ?_
 refine Ch.cs 25 rfl ?_ ?_ <;> intro h3 q3
 refine ac ?_
 refine wk2 1 47 rfl ?_
 refine ac ?_
 refine ac ?_
 · refine int_eq (if_neg (fun hv => ?_)).symm; have ok := eptB_iff.1 hv; have v1 := ok.name; have v2 := ok.least; have v3 := ok.lm; have v4 := ok.most; have v5 := suites_16 ok.suites; have v6 := ok.idl; have v7 := ok.ancl; omega
 refine ac ?_
 refine Ch.cs 30 rfl ?_ ?_ <;> intro h4 q4
 refine ac ?_
 refine wk2 1 47 rfl ?_
 refine ac ?_
 refine ac ?_
 · refine int_eq (if_neg (fun hv => ?_)).symm; have ok := eptB_iff.1 hv; have v1 := ok.name; have v2 := ok.least; have v3 := ok.lm; have v4 := ok.most; have v5 := suites_16 ok.suites; have v6 := ok.idl; have v7 := ok.ancl; omega
 refine ac ?_
 refine Ch.cs 36 rfl ?_ ?_ <;> intro h5 q5
 refine ac ?_
 refine wk2 1 47 rfl ?_
 refine ac ?_
 refine ac ?_
 · refine int_eq (if_neg (fun hv => ?_)).symm; have ok := eptB_iff.1 hv; have v1 := ok.name; have v2 := ok.least; have v3 := ok.lm; have v4 := ok.most; have v5 := suites_16 ok.suites; have v6 := ok.idl; have v7 := ok.ancl; omega
 refine ac ?_
 refine Ch.cs 42 rfl ?_ ?_ <;> intro h6 q6
 refine ac ?_
 refine wk2 1 47 rfl ?_
 refine ac ?_
 refine ac ?_
 · refine int_eq (if_neg (fun hv => ?_)).symm; have ok := eptB_iff.1 hv; have v1 := ok.name; have v2 := ok.least; have v3 := ok.lm; have v4 := ok.most; have v5 := suites_16 ok.suites; have v6 := ok.idl; have v7 := ok.ancl; omega
 refine ac ?_
 refine wk2 1 47 rfl ?_
 refine Tr.cn rfl ?_ ?_ <;> intro h7 q7
 refine ac ?_
 refine ac ?_
 · refine int_eq (if_neg (fun hv => ?_)).symm; have ok := eptB_iff.1 hv; have v1 := ok.name; have v2 := ok.least; have v3 := ok.lm; have v4 := ok.most; have v5 := suites_16 ok.suites; have v6 := ok.idl; have v7 := ok.ancl; omega
 refine ac ?_
 refine ac ?_
 refine Tr.block (Tr.loopw [(1, _)] ⟨ke rfl, trivial⟩ (fun i : Nat => [(3, int ((i : Nat) : Int))]) (fun i : Nat => i ≤ (e.suites).length ∧ (∀ j, j < i → suiteAt e.suites j = true)) (fun i : Nat => (e.suites).length - i) 0 (⟨Nat.zero_le _, fun j hj => absurd hj (by omega)⟩) ⟨ke rfl, trivial⟩ ?_)
 rintro i ⟨hle_i, hinv_i⟩
 refine ac ?_
 refine Tr.cn rfl ?_ ?_ <;> intro h8 q8
 have hk_i : i < (e.suites).length := lt_of_dec h8
 obtain ⟨x, hx_i⟩ := at_ hk_i
 have hg := getD_at (d := (0 : Int)) hx_i
 refine ac ?_
 refine ao ?_
 refine tp rfl (ok_indexAddr rfl Tryz.underlying22 sz3 (vl rfl) (vl rfl) (by omega) (row_at hx_i)) (tp rfl (kl1 rfl one3 rfl) (tp rfl (kc1 (w_R2Suite) rfl rfl) ?_))
 refine ao ?_
 refine TO.alloc rfl rfl (by decide) rfl z170 zo170 (fun b1 => ?_)
 refine sf 0 4 ⟨rfl, rfl, rfl⟩ rfl rfl rfl rfl ?_
 refine ao ?_
 refine wk3 1 3 5 rfl ?_
 refine ac ?_
 refine Ch.cs 66 rfl ?_ ?_ <;> intro h9 q9
 have hnin : ¬ (1 ≤ x ∧ x ≤ 16) := by intro hh; rw [if_pos hh] at h9; exact absurd h9 (by decide)
 refine ac ?_
 refine wk3 1 3 77 rfl ?_
 refine ac ?_
 refine ac ?_
 · refine int_eq (if_neg (fun hv => ?_)).symm; have ok := eptB_iff.1 hv; have h_ := allI_iff.1 (show allI (suiteAt e.suites) e.suites.length = true from ok.suites) i (by omega); unfold suiteAt at h_; rw [hg] at h_; exact hnin (by simpa using and1 h_)
 have hin : 1 ≤ x ∧ x ≤ 16 := by refine Decidable.byContradiction fun hh => ?_; rw [if_neg hh] at h9; exact absurd h9 (by decide)
 refine ac ?_
 refine cy h9 rfl (ok_sliceTo rfl Tryz.underlying22 sz3 (vl rfl) (vl rfl) (by omega) (by simp; omega)) ?_
 refine ac ?_
 refine cy h9 rfl (ok_indexAddr rfl Tryz.underlying22 sz3 (vl rfl) (vl rfl) (by omega) (row_at hx_i)) (cy h9 rfl (kl1 rfl one3 rfl) ?_)
 refine cy h9 rfl (ok_call rfl (w_R02Has (l := e.suites.take i) (v := x)) ⟨⟨_, rfl, Pr.le_of_eq (by rw [← List.map_take, Int.toNat_natCast])⟩, ke rfl, trivial⟩) ?_
 refine ac ?_
 refine wk3 1 3 77 rfl ?_
 refine Tr.cn rfl ?_ ?_ <;> intro h10 q10
 refine ac ?_
 refine ac ?_
 · refine int_eq (if_neg (fun hv => ?_)).symm; have ok := eptB_iff.1 hv; have h_ := allI_iff.1 (show allI (suiteAt e.suites) e.suites.length = true from ok.suites) i (by omega); unfold suiteAt at h_; rw [hg] at h_; exact absurd (by assumption : ((e.suites.take i).any fun y => x == y) = true) (by have h2 := and2 h_; rw [Bool.not_eq_true'] at h2; rw [h2]; decide)
 refine ac ?_
 refine ac ?_
 exact Fin.fam_same (i + 1) ⟨⟨hk_i, allI_step hinv_i (by unfold suiteAt; rw [hg]; rw [decide_eq_true hin]; simp_all)⟩, by omega⟩ ⟨⟨_, rfl, int_succ i⟩, ke rfl, trivial⟩
 have he_i : i = (e.suites).length := by have := ge_of_dec h8; omega
 subst he_i
 refine ac ?_
 refine ac ?_
 refine Tr.block (Tr.loopw [(1, _)] ⟨ke rfl, trivial⟩ (fun m : Nat => [(6, int ((m : Nat) : Int))]) (fun m : Nat => m ≤ (e.ids).length ∧ (∀ j y, j < m → e.ids[j]? = some y → (!idB y) = false)) (fun m : Nat => (e.ids).length - m) 0 (⟨Nat.zero_le _, fun j y hj => absurd hj (by omega)⟩) ⟨ke rfl, trivial⟩ ?_)
 rintro m ⟨hle_m, hinv_m⟩
 refine ac ?_
 refine Tr.cn rfl ?_ ?_ <;> intro h11 q11
 have hk_m : m < (e.ids).length := lt_of_dec h11
 obtain ⟨x, hx_m⟩ := at_ hk_m
 refine ac ?_
 refine ac ?_
 refine co rfl (ok_indexAddr rfl Tryz.underlying30 sz27 (vl rfl) (vl rfl) (by omega) (row_at hx_m)) ?_
 refine ac ?_
 refine co rfl (ok_indexAddr rfl Tryz.underlying30 sz27 (vl rfl) (vl rfl) (by omega) (row_at hx_m)) ?_
 refine ac ?_
 refine co rfl (ok_indexAddr rfl Tryz.underlying30 sz27 (vl rfl) (vl rfl) (by omega) (row_at hx_m)) ?_
 refine ac ?_
 refine co rfl (kc3 (w_R5Right) rfl rfl rfl rfl) ?_
 refine ac ?_
 refine wk3 1 6 104 rfl ?_
 refine Tr.cn rfl ?_ ?_ <;> intro h12 q12
 refine ac ?_
 refine ac ?_
 · refine int_eq (if_neg (fun hv => ?_)).symm; have ok := eptB_iff.1 hv; have h_ := List.all_eq_true.1 ok.ids x (List.mem_of_getElem? hx_m); unfold idB at h_; simp_all
 refine ac ?_
 refine ac ?_
 exact Fin.fam_same (m + 1) ⟨⟨hk_m, step_no (p := fun c => !idB c) hx_m (by unfold idB; simp_all) hinv_m⟩, by omega⟩ ⟨⟨_, rfl, int_succ m⟩, ke rfl, trivial⟩
 have he_m : m = (e.ids).length := by have := ge_of_dec h11; omega
 subst he_m
 have hall := all_end hinv_m
 refine ac ?_
 refine ac ?_
 refine Tr.block (Tr.loopw [(1, _)] ⟨ke rfl, trivial⟩ (fun o : Nat => [(7, int ((o : Nat) : Int))]) (fun o : Nat => o ≤ (e.anchors).length ∧ (∀ j, j < o → (ascAt e.anchors j && keyB (e.anchors[j]?.getD 0)) = true)) (fun o : Nat => (e.anchors).length - o) 0 (⟨Nat.zero_le _, fun j hj => absurd hj (by omega)⟩) ⟨ke rfl, trivial⟩ ?_)
 rintro o ⟨hle_o, hinv_o⟩
 refine ac ?_
 refine Tr.cn rfl ?_ ?_ <;> intro h13 q13
 have hk_o : o < (e.anchors).length := lt_of_dec h13
 obtain ⟨a, hx_o⟩ := at_ hk_o
 have hg := getD_at (d := (0 : Int)) hx_o
 refine ac ?_
 refine ac ?_
 refine co rfl (ok_indexAddr rfl Tryz.underlying22 sz3 (vl rfl) (vl rfl) (by omega) (row_at hx_o)) ?_
 refine ac ?_
 refine Ch.cs 118 rfl ?_ ?_ <;> intro h14 q14
 refine ac ?_
 refine wk3 1 7 143 rfl ?_
 refine ac ?_
 refine ac ?_
 · refine int_eq (if_neg (fun hv => ?_)).symm; have ok := eptB_iff.1 hv; have h_ := List.all_eq_true.1 ok.keys a (List.mem_of_getElem? hx_o); unfold keyB at h_; simp at h_; omega
 refine ac ?_
 refine cy h14 rfl (ok_indexAddr rfl Tryz.underlying22 sz3 (vl rfl) (vl rfl) (by omega) (row_at hx_o)) ?_
 refine ac ?_
 refine Ch.cs 126 rfl ?_ ?_ <;> intro h15 q15
 refine ac ?_
 refine wk3 1 7 143 rfl ?_
 refine ac ?_
 refine ac ?_
 · refine int_eq (if_neg (fun hv => ?_)).symm; have ok := eptB_iff.1 hv; have h_ := List.all_eq_true.1 ok.keys a (List.mem_of_getElem? hx_o); unfold keyB at h_; simp at h_; omega
 refine ac ?_
 refine Ch.cs 129 rfl ?_ ?_ <;> intro h16 q16
 have hk0 : 0 < o := by simpa using h16
 obtain ⟨y, hy⟩ := at_ (l := e.anchors) (k := o - 1) (by omega)
 have hgy := getD_at (d := (0 : Int)) hy
 refine ac ?_
 refine cy h16 rfl (ok_indexAddr rfl Tryz.underlying22 sz3 (vl rfl) (vl rfl) (by omega) (by rw [show ((o : Nat) : Int) - 1 = ((o - 1 : Nat) : Int) by omega]; exact row_at hy)) ?_
 refine ac ?_
 refine cy h16 rfl (ok_indexAddr rfl Tryz.underlying22 sz3 (vl rfl) (vl rfl) (by omega) (row_at hx_o)) ?_
 refine ac ?_
 refine wk3 1 7 143 rfl ?_
 refine Tr.cn rfl ?_ ?_ <;> intro h17 q17
 refine ac ?_
 refine ac ?_
 · refine int_eq (if_neg (fun hv => ?_)).symm; have ok := eptB_iff.1 hv; have h_ := allI_iff.1 (show allI (ascAt e.anchors) e.anchors.length = true from ok.anc) o (by omega); unfold ascAt at h_; rw [hg, hgy] at h_; simp at h_; omega
 refine ac ?_
 refine ac ?_
 exact Fin.fam_same (o + 1) ⟨⟨hk_o, (fun j hj => by rcases Nat.lt_or_eq_of_le (Nat.le_of_lt_succ hj) with h_ | h_; exact hinv_o j h_; (subst h_; unfold ascAt keyB; rw [hg]; rw [hgy]; simp_all))⟩, by omega⟩ ⟨⟨_, rfl, int_succ o⟩, ke rfl, trivial⟩
 have hk00 : ¬ 0 < o := by simpa using h16
 refine ac ?_
 refine wk3 1 7 143 rfl ?_
 refine ac ?_
 refine ac ?_
 exact Fin.fam_same (o + 1) ⟨⟨hk_o, (fun j hj => by rcases Nat.lt_or_eq_of_le (Nat.le_of_lt_succ hj) with h_ | h_; exact hinv_o j h_; (subst h_; unfold ascAt keyB; rw [hg]; simp_all))⟩, by omega⟩ ⟨⟨_, rfl, int_succ o⟩, ke rfl, trivial⟩
 have he_o : o = (e.anchors).length := by have := ge_of_dec h13; omega
 subst he_o
 refine ac ?_
 refine ac ?_
 refine Tr.block (Tr.loopw [(1, _)] ⟨ke rfl, trivial⟩ (fun q : Nat => [(8, int ((q : Nat) : Int))]) (fun q : Nat => q ≤ (e.hashes).length ∧ (∀ j, j < q → (ascAt e.hashes j && hashB (e.hashes[j]?.getD 0)) = true)) (fun q : Nat => (e.hashes).length - q) 0 (⟨Nat.zero_le _, fun j hj => absurd hj (by omega)⟩) ⟨ke rfl, trivial⟩ ?_)
 rintro q ⟨hle_q, hinv_q⟩
 refine ac ?_
 refine Tr.cn rfl ?_ ?_ <;> intro h18 q18
 have hk_q : q < (e.hashes).length := lt_of_dec h18
 obtain ⟨a, hx_q⟩ := at_ hk_q
 have hg := getD_at (d := (0 : Int)) hx_q
 refine ac ?_
 refine ac ?_
 refine co rfl (ok_indexAddr rfl Tryz.underlying22 sz3 (vl rfl) (vl rfl) (by omega) (row_at hx_q)) (co rfl (kl1 rfl one3 rfl) (co rfl (kc1 (w_RKind) rfl rfl) ?_))
 refine ac ?_
 refine Ch.cs 158 rfl ?_ ?_ <;> intro h19 q19
 refine ac ?_
 refine wk3 1 8 175 rfl ?_
 refine ac ?_
 refine ac ?_
 · refine int_eq (if_neg (fun hv => ?_)).symm; have ok := eptB_iff.1 hv; have h_ := List.all_eq_true.1 ok.hsh a (List.mem_of_getElem? hx_q); unfold hashB at h_; simp_all
 refine ac ?_
 refine Ch.cs 161 rfl ?_ ?_ <;> intro h20 q20
 have hk0 : 0 < q := by simpa using h20
 obtain ⟨y, hy⟩ := at_ (l := e.hashes) (k := q - 1) (by omega)
 have hgy := getD_at (d := (0 : Int)) hy
 refine ac ?_
 refine cy h20 rfl (ok_indexAddr rfl Tryz.underlying22 sz3 (vl rfl) (vl rfl) (by omega) (by rw [show ((q : Nat) : Int) - 1 = ((q - 1 : Nat) : Int) by omega]; exact row_at hy)) ?_
 refine ac ?_
 refine cy h20 rfl (ok_indexAddr rfl Tryz.underlying22 sz3 (vl rfl) (vl rfl) (by omega) (row_at hx_q)) ?_
 refine ac ?_
 refine wk3 1 8 175 rfl ?_
 refine Tr.cn rfl ?_ ?_ <;> intro h21 q21
 refine ac ?_
 refine ac ?_
 · refine int_eq (if_neg (fun hv => ?_)).symm; have ok := eptB_iff.1 hv; have h_ := allI_iff.1 (show allI (ascAt e.hashes) e.hashes.length = true from ok.hash) q (by omega); unfold ascAt at h_; rw [hg, hgy] at h_; simp at h_; omega
 refine ac ?_
 refine ac ?_
 exact Fin.fam_same (q + 1) ⟨⟨hk_q, (fun j hj => by rcases Nat.lt_or_eq_of_le (Nat.le_of_lt_succ hj) with h_ | h_; exact hinv_q j h_; (subst h_; unfold ascAt hashB; rw [hg]; rw [hgy]; simp_all))⟩, by omega⟩ ⟨⟨_, rfl, int_succ q⟩, ke rfl, trivial⟩
 have hk00 : ¬ 0 < q := by simpa using h20
 refine ac ?_
 refine wk3 1 8 175 rfl ?_
 refine ac ?_
 refine ac ?_
 exact Fin.fam_same (q + 1) ⟨⟨hk_q, (fun j hj => by rcases Nat.lt_or_eq_of_le (Nat.le_of_lt_succ hj) with h_ | h_; exact hinv_q j h_; (subst h_; unfold ascAt hashB; rw [hg]; simp_all))⟩, by omega⟩ ⟨⟨_, rfl, int_succ q⟩, ke rfl, trivial⟩
 have he_q : q = (e.hashes).length := by have := ge_of_dec h18; omega
 subst he_q
 refine ac ?_
 refine ac ?_
 refine ac ?_
 · refine int_eq (if_pos (eptB_iff.2 ⟨by simp_all, by omega, by omega, by omega, allI_iff.2 hinv_i, by omega, by omega, allI_iff.2 (fun j hj => and1 (hinv_o j hj)), allI_iff.2 (fun j hj => and1 (hinv_q j hj)), hall, all_at (fun j hj => and2 (hinv_o j hj)), all_at (fun j hj => and2 (hinv_q j hj))⟩)).symm
end Go.Proofs.YtppeeogffbpcbaaGreat
namespace Go.Proofs.YtppeeogffbpcbaaGreat
open Go Go.RowKit Cp

structure RestP (e x : Ept) (k : Int) : Prop where
  suites : k = 1 ∨ k = 2 → ({ x with suites := e.suites } : Ept) = e
  most : k = 3 → ({ x with most := e.most } : Ept) = e
  least : k = 4 → ({ x with least := e.least } : Ept) = e
  ids : k = 5 ∨ k = 6 → ({ x with ids := e.ids } : Ept) = e
  anchors : k = 7 ∨ k = 8 → ({ x with anchors := e.anchors } : Ept) = e
  hashes : k = 9 ∨ k = 10 → ({ x with hashes := e.hashes } : Ept) = e
  fall : k = 11 → ({ x with fall := e.fall } : Ept) = e
  own : k = 12 → ({ x with own := e.own } : Ept) = e
theorem rest_step {e : Ept} {c : Chg} {x : Ept} {b : Chg} (hc : okCh c) (h : stepR e c = .ok (x, b)) : RestP e x c.kind := by
  rcases kinds12 hc.1 with hk | hk | hk | hk | hk | hk | hk | hk | hk | hk | hk | hk
  · rw [stepR_1 hk] at h; rw [hk]
    (repeat' (split at h)) <;> first | (cases h; done) | (injection h with h; obtain ⟨rfl, rfl⟩ := Prod.mk.inj h; constructor <;> intro h0 <;> first | rfl | (exfalso; omega))
  · rw [stepR_2 hk] at h; rw [hk]
    (repeat' (split at h)) <;> first | (cases h; done) | (injection h with h; obtain ⟨rfl, rfl⟩ := Prod.mk.inj h; constructor <;> intro h0 <;> first | rfl | (exfalso; omega))
  · rw [stepR_3 hk] at h; rw [hk]
    (repeat' (split at h)) <;> first | (cases h; done) | (injection h with h; obtain ⟨rfl, rfl⟩ := Prod.mk.inj h; constructor <;> intro h0 <;> first | rfl | (exfalso; omega))
  · rw [stepR_4 hk] at h; rw [hk]
    (repeat' (split at h)) <;> first | (cases h; done) | (injection h with h; obtain ⟨rfl, rfl⟩ := Prod.mk.inj h; constructor <;> intro h0 <;> first | rfl | (exfalso; omega))
  · rw [stepR_5 hk] at h; rw [hk]
    (repeat' (split at h)) <;> first | (cases h; done) | (injection h with h; obtain ⟨rfl, rfl⟩ := Prod.mk.inj h; constructor <;> intro h0 <;> first | rfl | (exfalso; omega))
  · rw [stepR_6 hk] at h; rw [hk]
    (repeat' (split at h)) <;> first | (cases h; done) | (injection h with h; obtain ⟨rfl, rfl⟩ := Prod.mk.inj h; constructor <;> intro h0 <;> first | rfl | (exfalso; omega))
  · rw [stepR_7 hk] at h; rw [hk]
    (repeat' (split at h)) <;> first | (cases h; done) | (injection h with h; obtain ⟨rfl, rfl⟩ := Prod.mk.inj h; constructor <;> intro h0 <;> first | rfl | (exfalso; omega))
  · rw [stepR_8 hk] at h; rw [hk]
    (repeat' (split at h)) <;> first | (cases h; done) | (injection h with h; obtain ⟨rfl, rfl⟩ := Prod.mk.inj h; constructor <;> intro h0 <;> first | rfl | (exfalso; omega))
  · rw [stepR_9 hk] at h; rw [hk]
    (repeat' (split at h)) <;> first | (cases h; done) | (injection h with h; obtain ⟨rfl, rfl⟩ := Prod.mk.inj h; constructor <;> intro h0 <;> first | rfl | (exfalso; omega))
  · rw [stepR_10 hk] at h; rw [hk]
    (repeat' (split at h)) <;> first | (cases h; done) | (injection h with h; obtain ⟨rfl, rfl⟩ := Prod.mk.inj h; constructor <;> intro h0 <;> first | rfl | (exfalso; omega))
  · rw [stepR_11 hk] at h; rw [hk]
    (repeat' (split at h)) <;> first | (cases h; done) | (injection h with h; obtain ⟨rfl, rfl⟩ := Prod.mk.inj h; constructor <;> intro h0 <;> first | rfl | (exfalso; omega))
  · rw [stepR_12 hk] at h; rw [hk]
    (repeat' (split at h)) <;> first | (cases h; done) | (injection h with h; obtain ⟨rfl, rfl⟩ := Prod.mk.inj h; constructor <;> intro h0 <;> first | rfl | (exfalso; omega))

/-- It says that it is done. -/
theorem step_twice {e : Ept} {c : Chg} {x : Ept} {b : Chg} (he : EptOk e) (hc : okCh c) (h : stepR e c = .ok (x, b)) : stepR x c = .error 41 := by
  rcases kinds12 hc.1 with hk | hk | hk | hk | hk | hk | hk | hk | hk | hk | hk | hk
  · rw [stepR_1 hk] at h
    split at h
    · cases h
    next hr =>
    split at h
    · cases h
    next hn =>
    have hr := Classical.not_not.1 hr
    injection h with h; obtain ⟨rfl, rfl⟩ := Prod.mk.inj h
    obtain ⟨i, hi⟩ := Int.eq_ofNat_of_zero_le hr.1
    have hin : (e.suites.take c.at_.toNat ++ [c.number] ++ e.suites.drop c.at_.toNat)[c.at_.toNat]? = some c.number := ins_at (by omega)
    have hl : (e.suites.take c.at_.toNat ++ [c.number] ++ e.suites.drop c.at_.toNat).length = e.suites.length + 1 := ins_len (by omega)
    rw [stepR_1 hk]
    rw [if_neg (by show ¬ ¬ (0 ≤ c.at_ ∧ c.at_ ≤ ((e.suites.take c.at_.toNat ++ [c.number] ++ e.suites.drop c.at_.toNat).length : Nat)); omega)]; exact if_pos (List.any_eq_true.2 ⟨_, List.mem_of_getElem? hin, by simp⟩)
  · rw [stepR_2 hk] at h
    split at h
    · cases h
    next hn =>
    injection h with h; obtain ⟨rfl, rfl⟩ := Prod.mk.inj h
    have hn' : ¬ idx (fun y => c.number == y) e.suites < 0 := hn
    obtain ⟨y, hy, hp, hlt⟩ := idx_hit (p := fun y => c.number == y) (l := e.suites) (by omega)
    have hyc : c.number = y := by simpa using hp
    have hany : ((e.suites.eraseIdx (sIdx e c).toNat).any fun y => c.number == y) = false := any_erase (fun j z hj hz => by
      have hz : c.number = z := by simpa using hz
      have hy' : e.suites[(sIdx e c).toNat]? = some z := by rw [← hz, hyc]; exact hy
      exact suites_one he.suites hj hy')
    rw [stepR_2 hk]
    exact if_pos (idx_none' hany)
  · rw [stepR_3 hk] at h
    split at h
    · cases h
    next hn =>
    injection h with h; obtain ⟨rfl, rfl⟩ := Prod.mk.inj h
    rw [stepR_3 hk]
    exact if_pos rfl
  · rw [stepR_4 hk] at h
    split at h
    · cases h
    next hn =>
    injection h with h; obtain ⟨rfl, rfl⟩ := Prod.mk.inj h
    rw [stepR_4 hk]
    exact if_pos rfl
  · rw [stepR_5 hk] at h
    split at h
    · cases h
    next hr =>
    split at h
    · cases h
    next hn =>
    have hr := Classical.not_not.1 hr
    injection h with h; obtain ⟨rfl, rfl⟩ := Prod.mk.inj h
    obtain ⟨i, hi⟩ := Int.eq_ofNat_of_zero_le hr.1
    have hn' : ¬ 0 ≤ keyIdx c.idn.keyId e.ids := hn
    have hany : (e.ids.any fun x => x.keyId == c.idn.keyId) = false := idx_lt0 (show keyIdx c.idn.keyId e.ids < 0 by omega)
    have hx : keyIdx c.idn.keyId (e.ids.take c.at_.toNat ++ [c.idn] ++ e.ids.drop c.at_.toNat) = ((c.at_.toNat : Nat) : Int) := idx_ins (by omega) (by simp) hany
    have hl : (e.ids.take c.at_.toNat ++ [c.idn] ++ e.ids.drop c.at_.toNat).length = e.ids.length + 1 := ins_len (by omega)
    rw [stepR_5 hk]
    rw [if_neg (by show ¬ ¬ (0 ≤ c.at_ ∧ c.at_ ≤ ((e.ids.take c.at_.toNat ++ [c.idn] ++ e.ids.drop c.at_.toNat).length : Nat)); omega)]; exact if_pos (by show 0 ≤ keyIdx c.idn.keyId (e.ids.take c.at_.toNat ++ [c.idn] ++ e.ids.drop c.at_.toNat); omega)
  · rw [stepR_6 hk] at h
    split at h
    · cases h
    next x0 hx0 =>
    split at h
    · cases h
    next hn =>
    split at h
    · cases h
    next ht =>
    injection h with h; obtain ⟨rfl, rfl⟩ := Prod.mk.inj h
    have hany : ((e.ids.eraseIdx (keyIdx c.number e.ids).toNat).any fun x => x.keyId == c.number) = false := by
      refine any_erase (fun j z hj hz => ?_)
      have h1 := idx_first (p := fun x : Idn => x.keyId == c.number) (l := e.ids) (by unfold keyIdx at hn; omega) hj hz
      have h1 : (keyIdx c.number e.ids).toNat ≤ j := h1
      rcases Nat.lt_or_eq_of_le h1 with h2 | h2
      · exfalso; apply ht; rw [List.any_eq_true]
        refine ⟨z, List.mem_of_getElem? (i := j - (keyIdx c.number e.ids + 1).toNat) ?_, hz⟩
        rw [List.getElem?_drop, show (keyIdx c.number e.ids + 1).toNat + (j - (keyIdx c.number e.ids + 1).toNat) = j by omega]; exact hj
      · exact h2.symm
    have hlt : keyIdx c.number (e.ids.eraseIdx (keyIdx c.number e.ids).toNat) < 0 := idx_none' hany
    rw [stepR_6 hk]
    split
    · rfl
    · exact if_pos hlt
  · rw [stepR_7 hk] at h
    split at h
    · cases h
    next hn =>
    injection h with h; obtain ⟨rfl, rfl⟩ := Prod.mk.inj h
    rw [stepR_7 hk]
    exact if_pos (posI_ins (ascI_of he.anc)).2
  · rw [stepR_8 hk] at h
    split at h
    next hn =>
      injection h with h; obtain ⟨rfl, rfl⟩ := Prod.mk.inj h
      rw [stepR_8 hk]
      exact if_neg (show ¬ hasX (e.anchors.eraseIdx (posI e.anchors c.number)) c.number = true by rw [(posI_del (ascI_of he.anc) hn).2]; decide)
    · cases h
  · rw [stepR_9 hk] at h
    split at h
    · cases h
    next hn =>
    injection h with h; obtain ⟨rfl, rfl⟩ := Prod.mk.inj h
    rw [stepR_9 hk]
    exact if_pos (posI_ins (ascI_of he.hash)).2
  · rw [stepR_10 hk] at h
    split at h
    next hn =>
      injection h with h; obtain ⟨rfl, rfl⟩ := Prod.mk.inj h
      rw [stepR_10 hk]
      exact if_neg (show ¬ hasX (e.hashes.eraseIdx (posI e.hashes c.number)) c.number = true by rw [(posI_del (ascI_of he.hash) hn).2]; decide)
    · cases h
  · rw [stepR_11 hk] at h
    split at h
    · cases h
    next hr =>
    split at h
    · cases h
    next hn =>
    have hr := Classical.not_not.1 hr
    injection h with h; obtain ⟨rfl, rfl⟩ := Prod.mk.inj h
    have hb := bit_back hr hn
    rw [stepR_11 hk]
    rw [if_neg (fun h => h hr)]; exact if_pos hb.2.2.2
  · rw [stepR_12 hk] at h
    split at h
    · cases h
    next hr =>
    split at h
    · cases h
    next hn =>
    have hr := Classical.not_not.1 hr
    injection h with h; obtain ⟨rfl, rfl⟩ := Prod.mk.inj h
    have hb := bit_back hr hn
    rw [stepR_12 hk]
    rw [if_neg (fun h => h hr)]; exact if_pos hb.2.2.2

theorem done_twice {e : Ept} {c : Chg} {x : Ept} {b : Chg} (h : doneR e c = (x, b, 0)) : doneR x c = (zeroEp, zeroChg, 41) ∧ RestP e x c.kind ∧ x ≠ e ∧ eptB x = true := by
  obtain ⟨h1, h2, h3, h4⟩ := doneR_inv h
  have h5 := step_twice h1 h2 h3
  refine ⟨doneR_err (eptB_iff.2 h4) h2 h5, rest_step h2 h3, ?_, eptB_iff.2 h4⟩
  rintro rfl; rw [h5] at h3; cases h3
end Go.Proofs.YtppeeogffbpcbaaGreat
namespace Go.Proofs.YtppeeogffbpcbaaGreat
open Go Go.RowKit Cp

theorem idx_snoc {β : Type} {p : β → Bool} {l : List β} {k : Nat} {x : β} (h : l[k]? = some x) : idx p (l.take (k + 1)) = if idx p (l.take k) < 0 then (if p x = true then (k : Int) else -1) else idx p (l.take k) := by
  have hk := lt_of_at h
  rw [List.take_add_one, h]
  have hl : (l.take k).length = k := by rw [List.length_take]; omega
  show idx p (l.take k ++ [x]) = _
  generalize l.take k = a at hl ⊢
  unfold idx
  rw [List.findIdx?_append]
  cases ha : a.findIdx? p with
  | some i => simp; intro h3; omega
  | none => cases hp : p x <;> simp [hp, hl]
theorem cnt_snoc {β : Type} {p : β → Bool} {l : List β} {k : Nat} {x : β} (h : l[k]? = some x) : (((l.take (k + 1)).countP p : Nat) : Int) = ((l.take k).countP p : Nat) + (if p x = true then 1 else 0) := by
  rw [List.take_add_one, h]
  show (((l.take k ++ [x]).countP p : Nat) : Int) = _
  rw [List.countP_append, List.countP_singleton]; split <;> simp_all
theorem idx_cnt {β : Type} {p : β → Bool} {l : List β} : idx p l < 0 ↔ l.countP p = 0 := by
  unfold idx
  cases h : l.findIdx? p with
  | none =>
    rw [List.findIdx?_eq_none_iff] at h
    simp only [show ((none : Option Nat).map fun n => (n : Int)).getD (-1) = -1 from rfl]
    constructor
    · intro _; rw [List.countP_eq_zero]; intro a ha; rw [h a ha]; decide
    · intro _; decide
  | some i =>
    rw [List.findIdx?_eq_some_iff_getElem] at h
    obtain ⟨h1, h2, _⟩ := h
    constructor
    · intro h3; exfalso; revert h3; simp
    · intro h3; rw [List.countP_eq_zero] at h3; exact absurd h2 (h3 _ (List.getElem_mem h1))
theorem cnt_le {β : Type} {p : β → Bool} {l : List β} {k n : Nat} (h : l.length ≤ n) : (l.take k).countP p ≤ n := Nat.le_trans List.countP_le_length (Nat.le_trans (by rw [List.length_take]; omega) h)
theorem bsX {l : List Int} {n x : Int} {k : Nat} (h : ∀ (j : Nat) y, j < k → l[j]? = some y → y < n) (hx : l[k]? = some x) (hlt : x < n) : ∀ (j : Nat) y, j < k + 1 → l[j]? = some y → y < n := by
  intro j y hj hy
  rcases Nat.lt_or_eq_of_le (Nat.le_of_lt_succ hj) with h1 | h1
  · exact h j y h1 hy
  · subst h1; rw [hx] at hy; cases hy; exact hlt
def keyP (id : Int) (x : Idn) : Bool := x.keyId == id
def cntK (id : Int) (l : List Idn) : Int := ((l.countP (keyP id) : Nat) : Int)
theorem keyIdx_eq (id : Int) (l : List Idn) : keyIdx id l = idx (keyP id) l := rfl
theorem cntK_snoc {id : Int} {l : List Idn} {k : Nat} {x : Idn} (h : l[k]? = some x) : cntK id (l.take (k + 1)) = cntK id (l.take k) + (if x.keyId = id then 1 else 0) := by
  unfold cntK; rw [cnt_snoc h]; unfold keyP; simp only [beq_iff_eq]
theorem keyIdx_snoc {id : Int} {l : List Idn} {k : Nat} {x : Idn} (h : l[k]? = some x) : keyIdx id (l.take (k + 1)) = if cntK id (l.take k) = 0 then (if x.keyId = id then (k : Int) else -1) else keyIdx id (l.take k) := by
  rw [keyIdx_eq, keyIdx_eq, idx_snoc h]
  have := idx_cnt (p := keyP id) (l := l.take k)
  unfold cntK
  by_cases h2 : idx (keyP id) (l.take k) < 0
  · have h4 : (((l.take k).countP (keyP id) : Nat) : Int) = 0 := by rw [this.1 h2]; rfl
    rw [if_pos h2, if_pos h4]; unfold keyP; simp only [beq_iff_eq]
  · rw [if_neg h2, if_neg (fun h3 => h2 (this.2 (by omega)))]
theorem keyIdx_cnt0 {id : Int} {l : List Idn} (h : cntK id l = 0) : keyIdx id l = -1 := by
  have h2 := (idx_cnt (p := keyP id) (l := l)).2 (by unfold cntK at h; omega)
  rw [keyIdx_eq]; unfold idx at h2 ⊢
  cases h3 : l.findIdx? (keyP id) with
  | none => rfl
  | some i => rw [h3] at h2; simp at h2; omega
def valR (e : Ept) (k : Int) : Int × Bool := if k = 3 then (e.most, true) else if k = 4 then (e.least, true) else if k = 11 then (bitI e.fall, true) else if k = 12 then (bitI e.own, true) else (0, false)
def lstR (e : Ept) (k : Int) : List Int × Bool × Bool :=
  if k = 1 ∨ k = 2 then (e.suites, decide (k = 1), true) else if k = 7 ∨ k = 8 then (e.anchors, decide (k = 7), true) else if k = 9 ∨ k = 10 then (e.hashes, decide (k = 9), true) else ([], false, false)
theorem noneB_dec (x : Idn) : decide (x = zeroId) = noneB x := by
  rw [Bool.eq_iff_iff, decide_eq_true_eq]; unfold noneB zeroId
  cases x; simp only [Idn.mk.injEq, Bool.and_eq_true, decide_eq_true_eq, beq_iff_eq, and_assoc]
  constructor
  · rintro ⟨h1, h2, h3, h4⟩; exact ⟨h1, h2, h3, by simp [h4]⟩
  · rintro ⟨h1, h2, h3, h4⟩; exact ⟨h1, h2, h3, List.eq_nil_of_length_eq_zero (by omega)⟩

theorem w_R24place {l : List Int} {n : Int}  : Fun Tryz.prog 78 [ints l, int n] (int (idx (fun y => n == y) l)) := by
 refine fo Tryz.func78 rfl ⟨rfl, rfl⟩ fun M0 w0 => (Tr.lenm 0 rfl fun hlm_0 => ?_)
 refine ac ?_
 refine ac ?_
 refine Tr.block (Tr.loopw [(1, _), (7, _), (8, _)] (kk3 rfl) (fun k : Nat => [(9, int ((k : Nat) : Int))]) (fun k : Nat => k ≤ (l).length ∧ (∀ j y, j < k → l[j]? = some y → (n == y) = false)) (fun k : Nat => (l).length - k) 0 (⟨Nat.zero_le _, fun j y hj => absurd hj (by omega)⟩) ⟨ke rfl, trivial⟩ ?_)
 rintro k ⟨hle_k, hinv_k⟩
 refine ac ?_
 refine Tr.seq ?_
 refine Tr.cn rfl ?_ ?_ <;> intro h1 q1
 have hk_k : k < (l).length := lt_of_dec h1
 obtain ⟨x, hx_k⟩ := at_ hk_k
 refine ac ?_
 refine ac ?_
 refine co rfl (ok_indexAddr rfl Tryz.underlying22 sz3 (vl rfl) (vl rfl) (by omega) (by exact row_at (by assumption))) ?_
 refine ac ?_
 refine ac ?_
 refine Tr.cn rfl ?_ ?_ <;> intro h2 q2
 refine ac ?_
 refine wk1 4 rfl ?_
 refine ac ?_
 · exact int_eq (idx_found (p := fun y => n == y) hx_k (by simp; omega) hinv_k)
 refine ac ?_
 refine ac ?_
 exact Fin.fam_same (k + 1) ⟨⟨hk_k, step_no (p := fun y => n == y) hx_k (by simp; omega) hinv_k⟩, by omega⟩ ⟨⟨_, rfl, int_succ k⟩, ke rfl, ke rfl, ke rfl, trivial⟩
 have he_k : k = (l).length := by have := ge_of_dec h1; omega
 subst he_k
 refine ac ?_
 refine ac ?_
 refine ac ?_
 · exact int_eq (idx_none (p := fun y => n == y) hinv_k)
theorem w_R24keys {e : Ept} {id : Int} (hl : e.ids.length ≤ 1000000) : Fun Tryz.prog 79 [agg (rowEp e), int id] (tup [int (cntK id e.ids), int (keyIdx id e.ids)]) := by
 refine fo Tryz.func79 rfl ⟨rfl, rfl⟩ fun M0 w0 => ?_
 refine ac ?_
 refine ac ?_
 refine ac ?_
 refine Tr.block (Tr.loopw [(1, _), (11, _), (12, _)] (kk3 rfl) (fun k : Nat => [(13, int ((k : Nat) : Int)), (6, int (cntK id (e.ids.take k))), (7, int (keyIdx id (e.ids.take k)))]) (fun k : Nat => k ≤ (e.ids).length) (fun k : Nat => (e.ids).length - k) 0 (Nat.zero_le _) ⟨ke rfl, ⟨_, rfl, int_eq rfl⟩, ⟨_, rfl, int_eq rfl⟩, trivial⟩ ?_)
 rintro k hle_k
 refine ac ?_
 refine Tr.seq ?_
 refine Tr.cn rfl ?_ ?_ <;> intro h1 q1
 have hk_k : k < (e.ids).length := lt_of_dec h1
 obtain ⟨x, hx_k⟩ := at_ hk_k
 have hc := cntK_snoc (id := id) hx_k
 have hi := keyIdx_snoc (id := id) hx_k
 have hcl : 0 ≤ cntK id (e.ids.take k) ∧ cntK id (e.ids.take k) ≤ 1000000 := ⟨by unfold cntK; omega, by have := cnt_le (p := keyP id) (k := k) hl; unfold cntK; omega⟩
 have h0 := keyIdx_cnt0 (id := id) (l := e.ids.take k)
 refine ac ?_
 refine ao ?_
 refine tp rfl (ok_indexAddr rfl Tryz.underlying30 sz27 (vl rfl) (vl rfl) (by omega) (by exact row_at (by assumption))) ?_
 refine tp rfl (ok_loadA rfl agg27 sz27 (vl rfl) rfl rfl) ?_
 refine TO.alloc rfl rfl (by decide) rfl z27 zo27 (fun b1 => ?_)
 refine tm rfl ?_
 refine sf 0 9 ⟨rfl, rfl, rfl⟩ rfl rfl rfl rfl ?_
 refine ao ?_
 refine wk8 1 6 7 8 9 11 12 13 rfl ?_
 refine ac ?_
 refine Tr.cn rfl ?_ ?_ <;> intro h2 q2
 refine ac ?_
 refine wk8 1 6 7 8 11 12 13 23 rfl ?_
 refine Tr.cn rfl ?_ ?_ <;> intro h3 q3
 refine ac ?_
 refine ac ?_
 refine ac ?_
 exact Fin.fam_same (k + 1) ⟨hk_k, by omega⟩ ⟨⟨_, rfl, int_succ k⟩, ⟨_, rfl, int_eq (by simp_all)⟩, ⟨_, rfl, int_eq (by simp_all)⟩, ke rfl, ke rfl, ke rfl, trivial⟩
 refine ac ?_
 refine ac ?_
 refine ac ?_
 exact Fin.fam_same (k + 1) ⟨hk_k, by omega⟩ ⟨⟨_, rfl, int_succ k⟩, ⟨_, rfl, int_eq (by simp_all)⟩, ⟨_, rfl, int_eq (by simp_all)⟩, ke rfl, ke rfl, ke rfl, trivial⟩
 refine ac ?_
 refine ac ?_
 exact Fin.fam_same (k + 1) ⟨hk_k, by omega⟩ ⟨⟨_, rfl, int_succ k⟩, ⟨_, rfl, int_eq (by simp_all)⟩, ⟨_, rfl, int_eq (by simp_all)⟩, ke rfl, ke rfl, ke rfl, trivial⟩
 have he_k : k = (e.ids).length := by have := ge_of_dec h1; omega
 subst he_k
 rw [List.take_length]
 refine ac ?_
 refine ac ?_
 refine Tr.ret (Fin.ret2 rfl (OutW.bse _ _) rfl ?_ rfl ?_)
 · exact Pr.le_refl _
 · exact Pr.le_refl _
theorem w_R24bit {b : Bool}  : Fun Tryz.prog 128 [bool b] (int (bitI b)) := by
 refine fo Tryz.func128 rfl ⟨rfl, rfl⟩ fun M0 w0 => ?_
 refine ac ?_
 refine ac ?_
 refine Tr.cn rfl ?_ ?_ <;> intro h1 q1
 refine ac ?_
 refine ac ?_
 · exact int_eq (by simp_all [bitI])
 refine ac ?_
 refine ac ?_
 refine ac ?_
 · exact int_eq (by simp_all [bitI])
theorem w_R24value {e : Ept} {k : Int}  : Fun Tryz.prog 81 [agg (rowEp e), int k] (tup [int (valR e k).1, bool (valR e k).2]) := by
 refine fo Tryz.func81 rfl ⟨rfl, rfl⟩ fun M0 w0 => ?_
 refine ac ?_
 refine ac ?_
 refine ac ?_
 refine Tr.cn rfl ?_ ?_ <;> intro h1 q1
 refine ac ?_
 refine Tr.ret (Fin.block_ret (Fin.then_ret (Fin.ret2 rfl (OutW.bse _ _) rfl ?_ rfl ?_)))
 · exact int_eq (by simp_all [valR])
 · exact bool_eq (by simp_all [valR])
 refine ac ?_
 refine Tr.cn rfl ?_ ?_ <;> intro h2 q2
 refine ac ?_
 refine Tr.ret (Fin.block_ret (Fin.then_ret (Fin.ret2 rfl (OutW.bse _ _) rfl ?_ rfl ?_)))
 · exact int_eq (by simp_all [valR])
 · exact bool_eq (by simp_all [valR])
 refine ac ?_
 refine Tr.cn rfl ?_ ?_ <;> intro h3 q3
 refine ac ?_
 refine co rfl (kc1 (w_R24bit) rfl rfl) ?_
 refine ac ?_
 refine wk2 4 5 rfl (Tr.ret (Fin.block_ret (Fin.then_ret (Fin.ret2 rfl (OutW.bse _ _) rfl ?_ rfl ?_))))
 · exact int_eq (by simp_all [valR])
 · exact bool_eq (by simp_all [valR])
 refine ac ?_
 refine Tr.cn rfl ?_ ?_ <;> intro h4 q4
 refine ac ?_
 refine co rfl (kc1 (w_R24bit) rfl rfl) ?_
 refine ac ?_
 refine wk2 4 5 rfl (Tr.ret (Fin.block_ret (Fin.then_ret (Fin.ret2 rfl (OutW.bse _ _) rfl ?_ rfl ?_))))
 · exact int_eq (by simp_all [valR])
 · exact bool_eq (by simp_all [valR])
 refine ac ?_
 refine ac ?_
 refine wk2 4 5 rfl (Tr.ret (Fin.ret2 rfl (OutW.bse _ _) rfl ?_ rfl ?_))
 · exact int_eq (by simp_all [valR])
 · exact bool_eq (by simp_all [valR])
theorem w_R24form {c : Chg} (hcs : c.idn.small) : Fun Tryz.prog 119 [agg (rowChg c)] (bool (decide (okCh c))) := by
 refine fo Tryz.func119 rfl ⟨rfl, rfl⟩ fun M0 w0 => ?_
 refine ac ?_
 refine ac ?_
 refine co rfl (ok_call rfl (w_R24SameI (a := c.idn) (b := zeroId) hcs) ⟨ke rfl, ⟨_, rfl, agg_le ⟨Pr.le_refl _, Pr.le_refl _, Pr.le_refl _, nil_slice 15, trivial⟩⟩, trivial⟩) ?_
 refine ac ?_
 refine ac ?_
 refine ac ?_
 refine Tr.cn rfl ?_ ?_ <;> intro h1 q1
 refine ac ?_
 refine ac ?_
 · refine bool_eq ?_; (try simp only [noneB_dec] at *); rw [Bool.eq_iff_iff, decide_eq_true_eq]; unfold okCh leanB; simp_all
 refine ac ?_
 refine Tr.cn rfl ?_ ?_ <;> intro h2 q2
 refine ac ?_
 refine wk1 2 rfl ?_
 refine ac ?_
 · refine bool_eq ?_; (try simp only [noneB_dec] at *); rw [Bool.eq_iff_iff, decide_eq_true_eq]; unfold okCh leanB; simp_all
 refine ac ?_
 refine ac ?_
 refine Ch.cs 21 rfl ?_ ?_ <;> intro h3 q3
 refine ac ?_
 refine Ch.cs 26 rfl ?_ ?_ <;> intro h4 q4
 refine ac ?_
 refine Ch.cs 29 rfl ?_ ?_ <;> intro h5 q5
 refine ac ?_
 refine wk1 2 rfl ?_
 refine ac ?_
 · refine bool_eq ?_; (try simp only [noneB_dec] at *); rw [Bool.eq_iff_iff, decide_eq_true_eq]; unfold okCh leanB; simp_all
 refine ac ?_
 refine wk1 2 rfl ?_
 refine ac ?_
 · refine bool_eq ?_; (try simp only [noneB_dec] at *); rw [Bool.eq_iff_iff, decide_eq_true_eq]; unfold okCh leanB; simp_all
 refine ac ?_
 refine wk1 2 rfl ?_
 refine ac ?_
 · refine bool_eq ?_; (try simp only [noneB_dec] at *); rw [Bool.eq_iff_iff, decide_eq_true_eq]; unfold okCh leanB; simp_all; omega
 refine ac ?_
 refine wk1 2 rfl ?_
 refine ac ?_
 · refine bool_eq ?_; (try simp only [noneB_dec] at *); rw [Bool.eq_iff_iff, decide_eq_true_eq]; unfold okCh leanB; simp_all; omega
theorem w_R24listed {e : Ept} {k : Int}  : Fun Tryz.prog 120 [agg (rowEp e), int k] (tup [ints (lstR e k).1, bool (lstR e k).2.1, bool (lstR e k).2.2]) := by
 refine fo Tryz.func120 rfl ⟨rfl, rfl⟩ fun M0 w0 => ?_
 refine ac ?_
 refine ac ?_
 refine ac ?_
 refine Tr.cn rfl ?_ ?_ <;> intro h1 q1
 refine ac ?_
 refine Tr.cond rfl (fun _ => ?_) (fun h => nomatch h1.symm.trans h)
 refine ac ?_
 refine wk3 4 5 6 rfl (Tr.ret (Fin.block_ret (Fin.then_ret (Fin.ret3 rfl (OutW.bse _ _) rfl ?_ rfl ?_ rfl ?_))))
 · exact Pr.le_of_eq (by simp_all [lstR])
 · exact bool_eq (by simp_all [lstR])
 · exact bool_eq (by simp_all [lstR])
 refine ac ?_
 refine Tr.cn rfl ?_ ?_ <;> intro h2 q2
 refine ac ?_
 refine wk3 4 5 6 rfl (Tr.ret (Fin.block_ret (Fin.then_ret (Fin.ret3 rfl (OutW.bse _ _) rfl ?_ rfl ?_ rfl ?_))))
 · exact Pr.le_of_eq (by simp_all [lstR])
 · exact bool_eq (by simp_all [lstR])
 · exact bool_eq (by simp_all [lstR])
 refine ac ?_
 refine Tr.cn rfl ?_ ?_ <;> intro h3 q3
 refine ac ?_
 refine Tr.cond rfl (fun _ => ?_) (fun h => nomatch h3.symm.trans h)
 refine ac ?_
 refine wk3 4 5 6 rfl (Tr.ret (Fin.block_ret (Fin.then_ret (Fin.ret3 rfl (OutW.bse _ _) rfl ?_ rfl ?_ rfl ?_))))
 · exact Pr.le_of_eq (by simp_all [lstR])
 · exact bool_eq (by simp_all [lstR])
 · exact bool_eq (by simp_all [lstR])
 refine ac ?_
 refine Tr.cn rfl ?_ ?_ <;> intro h4 q4
 refine ac ?_
 refine wk3 4 5 6 rfl (Tr.ret (Fin.block_ret (Fin.then_ret (Fin.ret3 rfl (OutW.bse _ _) rfl ?_ rfl ?_ rfl ?_))))
 · exact Pr.le_of_eq (by simp_all [lstR])
 · exact bool_eq (by simp_all [lstR])
 · exact bool_eq (by simp_all [lstR])
 refine ac ?_
 refine wk4 1 2 7 22 rfl ?_
 refine Tr.cn rfl ?_ ?_ <;> intro h5 q5
 refine ac ?_
 refine Tr.cond rfl (fun _ => ?_) (fun h => nomatch h5.symm.trans h)
 refine ac ?_
 refine Tr.ret (Fin.block_ret (Fin.then_ret (Fin.ret3 rfl (OutW.bse _ _) rfl ?_ rfl ?_ rfl ?_)))
 · exact Pr.le_of_eq (by simp_all [lstR])
 · exact bool_eq (by simp_all [lstR])
 · exact bool_eq (by simp_all [lstR])
 refine ac ?_
 refine Tr.cn rfl ?_ ?_ <;> intro h6 q6
 refine ac ?_
 refine Tr.ret (Fin.block_ret (Fin.then_ret (Fin.ret3 rfl (OutW.bse _ _) rfl ?_ rfl ?_ rfl ?_)))
 · exact Pr.le_of_eq (by simp_all [lstR])
 · exact bool_eq (by simp_all [lstR])
 · exact bool_eq (by simp_all [lstR])
 refine ac ?_
 refine ac ?_
 refine Tr.ret (Fin.ret3 rfl (OutW.bse _ _) rfl ?_ rfl ?_ rfl ?_)
 · exact Pr.le_trans (nil_slice 1) (Pr.le_of_eq (by rw [show (lstR e k).1 = [] by simp_all [lstR]]; rfl))
 · exact bool_eq (by simp_all [lstR])
 · exact bool_eq (by simp_all [lstR])
theorem w_R24with {l : List Int} {i : Nat} {n : Int} (hi : i ≤ l.length) (hl : l.length ≤ 1000000) : Fun Tryz.prog 121 [ints l, int ((i : Nat) : Int), int n] (ints (l.take i ++ [n] ++ l.drop i)) := by
 refine fo Tryz.func121 rfl ⟨rfl, rfl⟩ fun M0 w0 => ?_
 have hml : (l.map fun n : Int => [int n]).length = l.length := List.length_map _
 refine ac ?_
 refine ap ?_
 refine tp rfl (ok_sliceTo rfl Tryz.underlying22 sz3 (vl rfl) (vl rfl) (by omega) (by omega)) (TO.pad ?_)
 refine TO.efs 0 rfl rfl (by decide) (ef_append rfl rfl (by decide) rfl Tryz.underlying22 sz3 by3 z3 rfl (by decide) ⟨_, rfl, nil_slice _⟩ (vl rfl) (by simp only [List.length_map, List.length_append, List.length_cons, List.length_nil, List.length_take, List.length_drop]; unfold maxLen; omega) (by simp only [List.length_map, List.length_append, List.length_cons, List.length_nil, List.length_take, List.length_drop]; omega) (appR_full (by exact List.Mem.head _) ⟨_, rfl, nil_full 1⟩)) (fun v1 => ?_)
 refine ap ?_
 refine ap ?_
 refine TO.efs 0 rfl rfl (by decide) (ef_append rfl rfl (by decide) rfl Tryz.underlying22 sz3 by3 z3 rfl (by decide) ⟨_, rfl, andIs_le _ _⟩ ⟨_, rfl, full_le _ _⟩ (by simp only [List.length_map, List.length_append, List.length_cons, List.length_nil, List.length_take, List.length_drop]; unfold maxLen; omega) (by simp only [List.length_map, List.length_append, List.length_cons, List.length_nil, List.length_take, List.length_drop]; omega) (appR_is (by exact List.Mem.head _) ⟨_, rfl, andIs_is _ _⟩)) (fun v2 => ?_)
 refine ap ?_
 refine ap ?_
 refine tp rfl (ok_sliceFrom rfl Tryz.underlying22 sz3 (vl rfl) (vl rfl) (by omega) (by omega)) ?_
 refine TO.efs 0 rfl rfl (by decide) (ef_append rfl rfl (by decide) rfl Tryz.underlying22 sz3 by3 z3 rfl (by decide) ⟨_, rfl, andIs_le _ _⟩ (vl rfl) (by simp only [List.length_map, List.length_append, List.length_cons, List.length_nil, List.length_take, List.length_drop]; unfold maxLen; omega) (by simp only [List.length_map, List.length_append, List.length_cons, List.length_nil, List.length_take, List.length_drop]; omega) (appR_is (by exact List.Mem.head _) ⟨_, rfl, andIs_is _ _⟩)) (fun v3 => ?_)
 refine ap ?_
 refine wk1 6 rfl ?_
 refine ac ?_
 · exact Pr.le_trans (andIs_le _ _) (Pr.le_of_eq (by show _ = slice 1 ((l.take i ++ [n] ++ l.drop i).map fun n => [int n]); simp [List.map_take, List.map_drop]))
theorem w_R24without {l : List Int} {i : Nat} (hi : i < l.length) (hl : l.length ≤ 1000000) : Fun Tryz.prog 122 [ints l, int ((i : Nat) : Int)] (ints (l.eraseIdx i)) := by
 refine fo Tryz.func122 rfl ⟨rfl, rfl⟩ fun M0 w0 => ?_
 have hml : (l.map fun n : Int => [int n]).length = l.length := List.length_map _
 refine ac ?_
 refine ap ?_
 refine tp rfl (ok_sliceTo rfl Tryz.underlying22 sz3 (vl rfl) (vl rfl) (by omega) (by omega)) (TO.pad ?_)
 refine TO.efs 0 rfl rfl (by decide) (ef_append rfl rfl (by decide) rfl Tryz.underlying22 sz3 by3 z3 rfl (by decide) ⟨_, rfl, nil_slice _⟩ (vl rfl) (by simp only [List.length_map, List.length_append, List.length_cons, List.length_nil, List.length_take, List.length_drop]; unfold maxLen; omega) (by simp only [List.length_map, List.length_append, List.length_cons, List.length_nil, List.length_take, List.length_drop]; omega) (appR_full (by exact List.Mem.head _) ⟨_, rfl, nil_full 1⟩)) (fun v1 => ?_)
 refine ap ?_
 refine ap ?_
 refine tp rfl (ok_sliceFrom rfl Tryz.underlying22 sz3 (vl rfl) (vl rfl) (by omega) (by omega)) ?_
 refine TO.efs 0 rfl rfl (by decide) (ef_append rfl rfl (by decide) rfl Tryz.underlying22 sz3 by3 z3 rfl (by decide) ⟨_, rfl, andIs_le _ _⟩ (vl rfl) (by simp only [List.length_map, List.length_append, List.length_cons, List.length_nil, List.length_take, List.length_drop]; unfold maxLen; omega) (by simp only [List.length_map, List.length_append, List.length_cons, List.length_nil, List.length_take, List.length_drop]; omega) (appR_is (by exact List.Mem.head _) ⟨_, rfl, andIs_is _ _⟩)) (fun v2 => ?_)
 refine ap ?_
 refine ac ?_
 · exact Pr.le_trans (andIs_le _ _) (Pr.le_of_eq (by rw [List.eraseIdx_eq_take_drop_succ]; show _ = slice 1 ((l.take i ++ l.drop (i + 1)).map fun n => [int n]); simp [List.map_take, List.map_drop, show (((i : Nat) : Int) + 1).toNat = i + 1 by omega]))
theorem w_R24sorted {l : List Int} {n : Int} (hl : l.length ≤ 1000000) : Fun Tryz.prog 123 [ints l, int n] (ints (insX l n)) := by
 refine fo Tryz.func123 rfl ⟨rfl, rfl⟩ fun M0 w0 => (Tr.lenm 0 rfl fun hlm_0 => ?_)
 refine ac ?_
 refine ac ?_
 refine Tr.seq (Tr.block (Tr.loopw [(0, _), (1, _)] (kk2 rfl) (fun k : Nat => [(5, int ((k : Nat) : Int))]) (fun k : Nat => k ≤ l.length ∧ (∀ j y, j < k → l[j]? = some y → y < n)) (fun k : Nat => l.length - k) 0 (⟨Nat.zero_le _, fun j y hj => absurd hj (by omega)⟩) ⟨ke rfl, trivial⟩ ?_))
 rintro k ⟨hle_k, hinv⟩
 refine ac ?_
 refine Ch.cs 10 rfl ?_ ?_ <;> intro h1 q1
 obtain ⟨x, hx⟩ := at_ (l := l) (k := k) (by omega)
 refine ac ?_
 refine cy h1 rfl (ok_indexAddr rfl Tryz.underlying22 sz3 (vl rfl) (vl rfl) (by omega) (row_at hx)) ?_
 refine ac ?_
 refine wk4 0 1 5 17 rfl ?_
 refine Tr.cn rfl ?_ ?_ <;> intro h2 q2
 have hq := h2
 refine ac ?_
 refine ac ?_
 exact Fin.fam_same (k + 1) ⟨⟨by omega, bsX hinv hx (by simpa using hq)⟩, by omega⟩ ⟨⟨_, rfl, int_succ k⟩, ke rfl, ke rfl, trivial⟩
 have hp : posI l n = k := posI_eq hle_k hinv (fun y hy => by have h_ := h2; rw [hx] at hy; cases hy; simpa using h_)
 refine ac ?_
 refine ac ?_
 refine co rfl (ok_call rfl (w_R24with (l := l) (i := posI l n) (posI_le _ _) hl) ⟨ke rfl, ⟨_, rfl, int_eq (by omega)⟩, ke rfl, trivial⟩) ?_
 refine ac ?_
 refine ac ?_
 · exact Pr.le_refl _
 have hp : posI l n = k := posI_eq hle_k hinv (fun y hy => by have := lt_of_at hy; have := q1; omega)
 refine ac ?_
 refine wk4 0 1 5 17 rfl ?_
 refine ac ?_
 refine ac ?_
 refine co rfl (ok_call rfl (w_R24with (l := l) (i := posI l n) (posI_le _ _) hl) ⟨ke rfl, ⟨_, rfl, int_eq (by omega)⟩, ke rfl, trivial⟩) ?_
 refine ac ?_
 refine ac ?_
 · exact Pr.le_refl _
end Go.Proofs.YtppeeogffbpcbaaGreat
namespace Go.Proofs.YtppeeogffbpcbaaGreat
open Go Go.RowKit Cp

def alw (e : Ept) (c : Chg) : Int :=
  if eptB e = false then 19 else if ¬ okCh c then 40
  else if c.kind = 1 ∧ (c.at_ < 0 ∨ (e.suites.length : Int) < c.at_) then 2
  else if c.kind = 5 ∧ (c.at_ < 0 ∨ (e.ids.length : Int) < c.at_) then 2
  else if (c.kind = 11 ∨ c.kind = 12) ∧ (c.number ≠ 0 ∧ c.number ≠ 1) then 2
  else if (lstR e c.kind).2.2 = true ∧ decide (0 ≤ idx (fun y => c.number == y) (lstR e c.kind).1) = (lstR e c.kind).2.1 then 41
  else if (valR e c.kind).2 = true ∧ (valR e c.kind).1 = c.number then 41
  else if c.kind = 5 ∧ 0 < cntK c.idn.keyId e.ids then 41
  else if c.kind = 6 ∧ cntK c.number e.ids = 0 then 41
  else if c.kind = 6 ∧ 1 < cntK c.number e.ids then 5 else 0
theorem idx_has {l : List Int} (hs : AscI l) {n : Int} : idx (fun y => n == y) l = if hasX l n = true then ((posI l n : Nat) : Int) else -1 := by
  by_cases h : hasX l n = true
  · rw [if_pos h]
    obtain ⟨y, hy⟩ := at_ (hasX_lt h)
    have hyn : y = n := by have h2 := hasX_at rfl hy; rw [h] at h2; simpa using h2.symm
    exact (idx_found (p := fun y => n == y) hy (by simp [hyn]) (fun j z hj hz => by have := posI_lt hj hz; simp; omega)).symm
  · rw [if_neg h]
    refine (idx_none (p := fun y => n == y) (fun j z hj hz => ?_)).symm
    simp only [beq_eq_false_iff_ne, ne_eq]
    intro hn; subst hn
    rcases Nat.lt_trichotomy j (posI l n) with h1 | h1 | h1
    · have := posI_lt h1 hz; omega
    · subst h1; exact h (by rw [hasX_at rfl hz]; simp)
    · obtain ⟨y, hy⟩ := at_ (l := l) (k := posI l n) (by have := lt_of_at hz; omega)
      have h2 := posI_ge hy
      have h3 := ascI_lt hs h1 hy hz
      omega
theorem dup_cnt {l : List Idn} {n : Int} {x : Idn} (h0 : ¬ keyIdx n l < 0) (hx : l[(keyIdx n l).toNat]? = some x) : (1 < cntK n l) ↔ ((l.drop (keyIdx n l + 1).toNat).any fun x => x.keyId == n) = true := by
  obtain ⟨y, hy, hp, hlt⟩ := idx_hit (p := keyP n) (l := l) (by rw [← keyIdx_eq]; omega)
  rw [← keyIdx_eq] at hy hlt
  have hsplit : l = l.take (keyIdx n l).toNat ++ y :: l.drop ((keyIdx n l).toNat + 1) := by
    rw [List.getElem?_eq_getElem hlt] at hy; cases hy
    rw [List.getElem_cons_drop]; exact (List.take_append_drop _ _).symm
  have h1 : (l.take (keyIdx n l).toNat).countP (keyP n) = 0 := by
    refine idx_cnt.1 (Int.not_le.1 fun h2 => ?_)
    obtain ⟨z, hz, hzp, hzl⟩ := idx_hit h2
    have e1 : keyIdx n l = idx (keyP n) (l.take (keyIdx n l).toNat) := by
      obtain ⟨i, hi⟩ : ∃ i : Nat, idx (keyP n) (l.take (keyIdx n l).toNat) = (i : Int) := ⟨_, (Int.toNat_of_nonneg h2).symm⟩
      have h3 : ((l.take (keyIdx n l).toNat).findIdx? (keyP n)) = some i := by
        unfold idx at hi; cases h4 : (l.take (keyIdx n l).toNat).findIdx? (keyP n) with
        | none => rw [h4] at hi; simp at hi
        | some k => rw [h4] at hi; rw [show k = i by simp at hi; omega]
      have h5 : l.findIdx? (keyP n) = some i := by
        rw [← List.take_append_drop (keyIdx n l).toNat l, List.findIdx?_append, h3]; rfl
      have e2 : idx (keyP n) l = (i : Int) := by unfold idx; rw [h5]
      exact e2.trans hi.symm
    rw [← e1] at hzl; rw [List.length_take] at hzl; omega
  have h2 : l.countP (keyP n) = 1 + (l.drop ((keyIdx n l).toNat + 1)).countP (keyP n) := by
    conv => lhs; rw [hsplit]
    rw [List.countP_append, h1, List.countP_cons, hp]; simp; omega
  unfold cntK; rw [h2, show (keyIdx n l + 1).toNat = (keyIdx n l).toNat + 1 by omega]
  show _ ↔ (List.any _ (keyP n)) = true
  rw [List.any_eq_true, ← List.countP_pos_iff]; omega
theorem dec_any {l : List Int} {n : Int} : decide (0 ≤ idx (fun y => n == y) l) = l.any fun y => n == y := idx_any _ _
theorem dec_has {l : List Int} (hs : AscI l) {n : Int} : decide (0 ≤ idx (fun y => n == y) l) = hasX l n := by
  rw [idx_has hs]; cases hasX l n <;> simp
theorem alw_step {e : Ept} {c : Chg} (hce : eptB e = true) (hc : okCh c) : alw e c = match stepR e c with | .error f => f | .ok _ => 0 := by
  have ok := eptB_iff.1 hce
  have ha := ascI_of ok.anc; have hh := ascI_of ok.hash
  have hk := hc.1
  unfold alw
  rw [if_neg (by rw [hce]; decide), if_neg (not_not_intro hc)]
  have h0 : c.kind = 1 ∨ c.kind = 2 ∨ c.kind = 3 ∨ c.kind = 4 ∨ c.kind = 5 ∨ c.kind = 6 ∨ c.kind = 7 ∨ c.kind = 8 ∨ c.kind = 9 ∨ c.kind = 10 ∨ c.kind = 11 ∨ c.kind = 12 := by omega
  rcases h0 with h | h | h | h | h | h | h | h | h | h | h | h
  · rw [stepR_1 h]; unfold lstR valR; simp only [h]
    by_cases h1 : c.at_ < 0 ∨ (e.suites.length : Int) < c.at_
    · have h2 : ¬ (0 ≤ c.at_ ∧ c.at_ ≤ (e.suites.length : Int)) := by omega
      simp [h1, h2]
    · have h2 : 0 ≤ c.at_ ∧ c.at_ ≤ (e.suites.length : Int) := by omega
      have h3 := dec_any (l := e.suites) (n := c.number)
      have h4 : (0 ≤ idx (fun y => c.number == y) e.suites) ↔ (e.suites.any fun y => c.number == y) = true := by rw [← h3, decide_eq_true_eq]
      by_cases h5 : (e.suites.any fun y => c.number == y) = true
      · have h6 := h4.2 h5; simp only [h5]; simp [h1, h2, h6]
      · have h6 : ¬ 0 ≤ idx (fun y => c.number == y) e.suites := fun h => h5 (h4.1 h)
        simp only [h5]; simp [h1, h2, h6]
  · rw [stepR_2 h]; unfold lstR valR sIdx; simp only [h]
    by_cases h1 : idx (fun y => c.number == y) e.suites < 0
    · simp [h1]
    · simp [h1]
  · rw [stepR_3 h]; unfold lstR valR; simp only [h]; by_cases h1 : e.most = c.number <;> simp [h1]
  · rw [stepR_4 h]; unfold lstR valR; simp only [h]; by_cases h1 : e.least = c.number <;> simp [h1]
  · rw [stepR_5 h]; unfold lstR valR; simp only [h]
    have hcnt := idx_cnt (p := keyP c.idn.keyId) (l := e.ids)
    rw [← keyIdx_eq] at hcnt
    by_cases h1 : c.at_ < 0 ∨ (e.ids.length : Int) < c.at_
    · have h2 : ¬ (0 ≤ c.at_ ∧ c.at_ ≤ (e.ids.length : Int)) := by omega
      simp [h1, h2]
    · have h3 : 0 ≤ c.at_ ∧ c.at_ ≤ (e.ids.length : Int) := by omega
      by_cases h2 : 0 ≤ keyIdx c.idn.keyId e.ids
      · have : 0 < cntK c.idn.keyId e.ids := by unfold cntK; omega
        simp [h1, h2, h3, this]
      · have : ¬ 0 < cntK c.idn.keyId e.ids := by unfold cntK; omega
        simp [h1, h2, h3, this]
  · rw [stepR_6 h]; unfold lstR valR; simp only [h]
    have hcnt := idx_cnt (p := keyP c.number) (l := e.ids)
    rw [← keyIdx_eq] at hcnt
    by_cases h2 : keyIdx c.number e.ids < 0
    · have : cntK c.number e.ids = 0 := by unfold cntK; omega
      cases e.ids[(keyIdx c.number e.ids).toNat]? <;> simp [h2, this]
    · have h3 : ¬ cntK c.number e.ids = 0 := by unfold cntK; omega
      obtain ⟨x, hx, _, _⟩ := idx_hit (p := fun x : Idn => x.keyId == c.number) (l := e.ids) (by unfold keyIdx at h2; omega)
      have hx : e.ids[(keyIdx c.number e.ids).toNat]? = some x := hx
      have hd := dup_cnt h2 hx
      rw [hx]; simp only [if_neg h2]
      by_cases h4 : ((e.ids.drop (keyIdx c.number e.ids + 1).toNat).any fun x => x.keyId == c.number) = true
      · have := hd.2 h4; simp only [h4]; simp [h3, this]
      · have : ¬ 1 < cntK c.number e.ids := fun h5 => h4 (hd.1 h5)
        simp only [h4]; simp [h3, this]
  · rw [stepR_7 h]; unfold lstR valR; simp only [h]
    have h1 : (0 ≤ idx (fun y => c.number == y) e.anchors) ↔ hasX e.anchors c.number = true := by rw [← dec_has ha, decide_eq_true_eq]
    by_cases h2 : hasX e.anchors c.number = true
    · have h3 := h1.2 h2; simp [h2, h3]
    · have h3 : ¬ 0 ≤ idx (fun y => c.number == y) e.anchors := fun h => h2 (h1.1 h)
      simp [h2, h3]
  · rw [stepR_8 h]; unfold lstR valR; simp only [h]
    have h1 : (0 ≤ idx (fun y => c.number == y) e.anchors) ↔ hasX e.anchors c.number = true := by rw [← dec_has ha, decide_eq_true_eq]
    by_cases h2 : hasX e.anchors c.number = true
    · have h3 := h1.2 h2; simp [h2, h3]
    · have h3 : ¬ 0 ≤ idx (fun y => c.number == y) e.anchors := fun h => h2 (h1.1 h)
      simp [h2, h3]
  · rw [stepR_9 h]; unfold lstR valR; simp only [h]
    have h1 : (0 ≤ idx (fun y => c.number == y) e.hashes) ↔ hasX e.hashes c.number = true := by rw [← dec_has hh, decide_eq_true_eq]
    by_cases h2 : hasX e.hashes c.number = true
    · have h3 := h1.2 h2; simp [h2, h3]
    · have h3 : ¬ 0 ≤ idx (fun y => c.number == y) e.hashes := fun h => h2 (h1.1 h)
      simp [h2, h3]
  · rw [stepR_10 h]; unfold lstR valR; simp only [h]
    have h1 : (0 ≤ idx (fun y => c.number == y) e.hashes) ↔ hasX e.hashes c.number = true := by rw [← dec_has hh, decide_eq_true_eq]
    by_cases h2 : hasX e.hashes c.number = true
    · have h3 := h1.2 h2; simp [h2, h3]
    · have h3 : ¬ 0 ≤ idx (fun y => c.number == y) e.hashes := fun h => h2 (h1.1 h)
      simp [h2, h3]
  · rw [stepR_11 h]; unfold lstR valR; simp only [h]
    by_cases h1 : 0 ≤ c.number ∧ c.number ≤ 1
    · have : ¬ (c.number ≠ 0 ∧ c.number ≠ 1) := by omega
      by_cases h2 : bitI e.fall = c.number <;> simp [this, h1, h2]
    · have : c.number ≠ 0 ∧ c.number ≠ 1 := by omega
      simp [this, h1]
  · rw [stepR_12 h]; unfold lstR valR; simp only [h]
    by_cases h1 : 0 ≤ c.number ∧ c.number ≤ 1
    · have : ¬ (c.number ≠ 0 ∧ c.number ≠ 1) := by omega
      by_cases h2 : bitI e.own = c.number <;> simp [this, h1, h2]
    · have : c.number ≠ 0 ∧ c.number ≠ 1 := by omega
      simp [this, h1]
theorem alw_bad {e : Ept} {c : Chg} (h : alw e c ≠ 0) : doneR e c = (zeroEp, zeroChg, alw e c) := by
  by_cases hce : eptB e = false
  · have : alw e c = 19 := by unfold alw; rw [if_pos hce]
    rw [this]; unfold doneR; rw [if_pos hce]
  · by_cases hc : okCh c
    · have hce : eptB e = true := by simpa using hce
      have hs := alw_step hce hc
      cases h2 : stepR e c with
      | error f => rw [h2] at hs; rw [doneR_err hce hc h2, show alw e c = f from hs]
      | ok r => rw [h2] at hs; exact absurd hs h
    · have : alw e c = 40 := by unfold alw; rw [if_neg hce, if_pos hc]
      rw [this]; unfold doneR; rw [if_neg hce, if_pos hc]
theorem alw_ok {e : Ept} {c : Chg} (h : alw e c = 0) : eptB e = true ∧ okCh c ∧ ∃ e2 b, stepR e c = .ok (e2, b) := by
  by_cases hce : eptB e = false
  · have : alw e c = 19 := by unfold alw; rw [if_pos hce]
    rw [this] at h; cases h
  · by_cases hc : okCh c
    · have hce : eptB e = true := by simpa using hce
      have hs := alw_step hce hc
      cases h2 : stepR e c with
      | error f =>
        rw [h2] at hs; rw [h] at hs
        have h3 : (0 : Int) = f := hs
        have := stepR_ne hc h2; omega
      | ok r => exact ⟨hce, hc, r.1, r.2, rfl⟩
    · have : alw e c = 40 := by unfold alw; rw [if_neg hce, if_pos hc]
      rw [this] at h; cases h

end Go.Proofs.YtppeeogffbpcbaaGreat
