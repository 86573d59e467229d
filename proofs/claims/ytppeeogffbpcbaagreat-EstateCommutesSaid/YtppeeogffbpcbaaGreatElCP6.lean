/-
  Part 6 of the texts that prove this claim, merged.
-/
import Derived.Test.YtppeeogffbpcbaaGreatElCP5
set_option linter.all false
set_option maxRecDepth 40000
set_option maxHeartbeats 16000000
namespace Go.Proofs.YtppeeogffbpcbaaGreat
open Go Go.RowKit Cp

theorem idx_snoc {β : Type} {p : β → Bool} {l : List β} {k : Nat} {x : β} (h : l[k]? = some x) : idx p (l.take (k + 1)) = if idx p (l.take k) < 0 then (if p x = true then (k : Int) else -1) else idx p (l.take k) := by
  have hk := lt_of_at h
  rw [List.take_add_one, h]
  have hl : (l.take k).length = k := by rw [List.length_take]; omega
  show idx p (l.take k ++ [x]) = _
  generalize l.take k = a at hl ⊢
  unfold idx
  rw [List.findIdx?_append]
  cases ha : a.findIdx? p with
  | some i => simp; intro h3; omega
  | none => cases hp : p x <;> simp [hp, hl]
theorem cnt_snoc {β : Type} {p : β → Bool} {l : List β} {k : Nat} {x : β} (h : l[k]? = some x) : (((l.take (k + 1)).countP p : Nat) : Int) = ((l.take k).countP p : Nat) + (if p x = true then 1 else 0) := by
  rw [List.take_add_one, h]
  show (((l.take k ++ [x]).countP p : Nat) : Int) = _
  rw [List.countP_append, List.countP_singleton]; split <;> simp_all
theorem idx_cnt {β : Type} {p : β → Bool} {l : List β} : idx p l < 0 ↔ l.countP p = 0 := by
  unfold idx
  cases h : l.findIdx? p with
  | none =>
    rw [List.findIdx?_eq_none_iff] at h
    simp only [show ((none : Option Nat).map fun n => (n : Int)).getD (-1) = -1 from rfl]
    constructor
    · intro _; rw [List.countP_eq_zero]; intro a ha; rw [h a ha]; decide
    · intro _; decide
  | some i =>
    rw [List.findIdx?_eq_some_iff_getElem] at h
    obtain ⟨h1, h2, _⟩ := h
    constructor
    · intro h3; exfalso; revert h3; simp
    · intro h3; rw [List.countP_eq_zero] at h3; exact absurd h2 (h3 _ (List.getElem_mem h1))
theorem cnt_le {β : Type} {p : β → Bool} {l : List β} {k n : Nat} (h : l.length ≤ n) : (l.take k).countP p ≤ n := Nat.le_trans List.countP_le_length (Nat.le_trans (by rw [List.length_take]; omega) h)
theorem bsX {l : List Int} {n x : Int} {k : Nat} (h : ∀ (j : Nat) y, j < k → l[j]? = some y → y < n) (hx : l[k]? = some x) (hlt : x < n) : ∀ (j : Nat) y, j < k + 1 → l[j]? = some y → y < n := by
  intro j y hj hy
  rcases Nat.lt_or_eq_of_le (Nat.le_of_lt_succ hj) with h1 | h1
  · exact h j y h1 hy
  · subst h1; rw [hx] at hy; cases hy; exact hlt
def keyP (id : Int) (x : Idn) : Bool := x.keyId == id
def cntK (id : Int) (l : List Idn) : Int := ((l.countP (keyP id) : Nat) : Int)
theorem keyIdx_eq (id : Int) (l : List Idn) : keyIdx id l = idx (keyP id) l := rfl
theorem cntK_snoc {id : Int} {l : List Idn} {k : Nat} {x : Idn} (h : l[k]? = some x) : cntK id (l.take (k + 1)) = cntK id (l.take k) + (if x.keyId = id then 1 else 0) := by
  unfold cntK; rw [cnt_snoc h]; unfold keyP; simp only [beq_iff_eq]
theorem keyIdx_snoc {id : Int} {l : List Idn} {k : Nat} {x : Idn} (h : l[k]? = some x) : keyIdx id (l.take (k + 1)) = if cntK id (l.take k) = 0 then (if x.keyId = id then (k : Int) else -1) else keyIdx id (l.take k) := by
  rw [keyIdx_eq, keyIdx_eq, idx_snoc h]
  have := idx_cnt (p := keyP id) (l := l.take k)
  unfold cntK
  by_cases h2 : idx (keyP id) (l.take k) < 0
  · have h4 : (((l.take k).countP (keyP id) : Nat) : Int) = 0 := by rw [this.1 h2]; rfl
    rw [if_pos h2, if_pos h4]; unfold keyP; simp only [beq_iff_eq]
  · rw [if_neg h2, if_neg (fun h3 => h2 (this.2 (by omega)))]
theorem keyIdx_cnt0 {id : Int} {l : List Idn} (h : cntK id l = 0) : keyIdx id l = -1 := by
  have h2 := (idx_cnt (p := keyP id) (l := l)).2 (by unfold cntK at h; omega)
  rw [keyIdx_eq]; unfold idx at h2 ⊢
  cases h3 : l.findIdx? (keyP id) with
  | none => rfl
  | some i => rw [h3] at h2; simp at h2; omega
def valR (e : Ept) (k : Int) : Int × Bool := if k = 3 then (e.most, true) else if k = 4 then (e.least, true) else if k = 11 then (bitI e.fall, true) else if k = 12 then (bitI e.own, true) else (0, false)
def lstR (e : Ept) (k : Int) : List Int × Bool × Bool :=
  if k = 1 ∨ k = 2 then (e.suites, decide (k = 1), true) else if k = 7 ∨ k = 8 then (e.anchors, decide (k = 7), true) else if k = 9 ∨ k = 10 then (e.hashes, decide (k = 9), true) else ([], false, false)
theorem noneB_dec (x : Idn) : decide (x = zeroId) = noneB x := by
  rw [Bool.eq_iff_iff, decide_eq_true_eq]; unfold noneB zeroId
  cases x; simp only [Idn.mk.injEq, Bool.and_eq_true, decide_eq_true_eq, beq_iff_eq, and_assoc]
  constructor
  · rintro ⟨h1, h2, h3, h4⟩; exact ⟨h1, h2, h3, by simp [h4]⟩
  · rintro ⟨h1, h2, h3, h4⟩; exact ⟨h1, h2, h3, List.eq_nil_of_length_eq_zero (by omega)⟩

theorem w_R24place {l : List Int} {n : Int}  : Fun Tryz.prog 78 [ints l, int n] (int (idx (fun y => n == y) l)) := by
 refine fo Tryz.func78 rfl ⟨rfl, rfl⟩ fun M0 w0 => (Tr.lenm 0 rfl fun hlm_0 => ?_)
 refine ac ?_
 refine ac ?_
 refine Tr.block (Tr.loopw [(1, _), (7, _), (8, _)] (kk3 rfl) (fun k : Nat => [(9, int ((k : Nat) : Int))]) (fun k : Nat => k ≤ (l).length ∧ (∀ j y, j < k → l[j]? = some y → (n == y) = false)) (fun k : Nat => (l).length - k) 0 (⟨Nat.zero_le _, fun j y hj => absurd hj (by omega)⟩) ⟨ke rfl, trivial⟩ ?_)
 rintro k ⟨hle_k, hinv_k⟩
 refine ac ?_
 refine Tr.seq ?_
 refine Tr.cn rfl ?_ ?_ <;> intro h1 q1
 have hk_k : k < (l).length := lt_of_dec h1
 obtain ⟨x, hx_k⟩ := at_ hk_k
 refine ac ?_
 refine ac ?_
 refine co rfl (ok_indexAddr rfl Tryz.underlying22 sz3 (vl rfl) (vl rfl) (by omega) (by exact row_at (by assumption))) ?_
 refine ac ?_
 refine ac ?_
 refine Tr.cn rfl ?_ ?_ <;> intro h2 q2
 refine ac ?_
 refine wk1 4 rfl ?_
 refine ac ?_
 · exact int_eq (idx_found (p := fun y => n == y) hx_k (by simp; omega) hinv_k)
 refine ac ?_
 refine ac ?_
 exact Fin.fam_same (k + 1) ⟨⟨hk_k, step_no (p := fun y => n == y) hx_k (by simp; omega) hinv_k⟩, by omega⟩ ⟨⟨_, rfl, int_succ k⟩, ke rfl, ke rfl, ke rfl, trivial⟩
 have he_k : k = (l).length := by have := ge_of_dec h1; omega
 subst he_k
 refine ac ?_
 refine ac ?_
 refine ac ?_
 · exact int_eq (idx_none (p := fun y => n == y) hinv_k)
theorem w_R24keys {e : Ept} {id : Int} (hl : e.ids.length ≤ 1000000) : Fun Tryz.prog 79 [agg (rowEp e), int id] (tup [int (cntK id e.ids), int (keyIdx id e.ids)]) := by
 refine fo Tryz.func79 rfl ⟨rfl, rfl⟩ fun M0 w0 => ?_
 refine ac ?_
 refine ac ?_
 refine ac ?_
 refine Tr.block (Tr.loopw [(1, _), (11, _), (12, _)] (kk3 rfl) (fun k : Nat => [(13, int ((k : Nat) : Int)), (6, int (cntK id (e.ids.take k))), (7, int (keyIdx id (e.ids.take k)))]) (fun k : Nat => k ≤ (e.ids).length) (fun k : Nat => (e.ids).length - k) 0 (Nat.zero_le _) ⟨ke rfl, ⟨_, rfl, int_eq rfl⟩, ⟨_, rfl, int_eq rfl⟩, trivial⟩ ?_)
 rintro k hle_k
 refine ac ?_
 refine Tr.seq ?_
 refine Tr.cn rfl ?_ ?_ <;> intro h1 q1
 have hk_k : k < (e.ids).length := lt_of_dec h1
 obtain ⟨x, hx_k⟩ := at_ hk_k
 have hc := cntK_snoc (id := id) hx_k
 have hi := keyIdx_snoc (id := id) hx_k
 have hcl : 0 ≤ cntK id (e.ids.take k) ∧ cntK id (e.ids.take k) ≤ 1000000 := ⟨by unfold cntK; omega, by have := cnt_le (p := keyP id) (k := k) hl; unfold cntK; omega⟩
 have h0 := keyIdx_cnt0 (id := id) (l := e.ids.take k)
 refine ac ?_
 refine ao ?_
 refine tp rfl (ok_indexAddr rfl Tryz.underlying30 sz27 (vl rfl) (vl rfl) (by omega) (by exact row_at (by assumption))) ?_
 refine tp rfl (ok_loadA rfl agg27 sz27 (vl rfl) rfl rfl) ?_
 refine TO.alloc rfl rfl (by decide) rfl z27 zo27 (fun b1 => ?_)
 refine tm rfl ?_
 refine sf 0 9 ⟨rfl, rfl, rfl⟩ rfl rfl rfl rfl ?_
 refine ao ?_
 refine wk8 1 6 7 8 9 11 12 13 rfl ?_
 refine ac ?_
 refine Tr.cn rfl ?_ ?_ <;> intro h2 q2
 refine ac ?_
 refine wk8 1 6 7 8 11 12 13 23 rfl ?_
 refine Tr.cn rfl ?_ ?_ <;> intro h3 q3
 refine ac ?_
 refine ac ?_
 refine ac ?_
 exact Fin.fam_same (k + 1) ⟨hk_k, by omega⟩ ⟨⟨_, rfl, int_succ k⟩, ⟨_, rfl, int_eq (by simp_all)⟩, ⟨_, rfl, int_eq (by simp_all)⟩, ke rfl, ke rfl, ke rfl, trivial⟩
 refine ac ?_
 refine ac ?_
 refine ac ?_
 exact Fin.fam_same (k + 1) ⟨hk_k, by omega⟩ ⟨⟨_, rfl, int_succ k⟩, ⟨_, rfl, int_eq (by simp_all)⟩, ⟨_, rfl, int_eq (by simp_all)⟩, ke rfl, ke rfl, ke rfl, trivial⟩
 refine ac ?_
 refine ac ?_
 exact Fin.fam_same (k + 1) ⟨hk_k, by omega⟩ ⟨⟨_, rfl, int_succ k⟩, ⟨_, rfl, int_eq (by simp_all)⟩, ⟨_, rfl, int_eq (by simp_all)⟩, ke rfl, ke rfl, ke rfl, trivial⟩
 have he_k : k = (e.ids).length := by have := ge_of_dec h1; omega
 subst he_k
 rw [List.take_length]
 refine ac ?_
 refine ac ?_
 refine Tr.ret (Fin.ret2 rfl (OutW.bse _ _) rfl ?_ rfl ?_)
 · exact Pr.le_refl _
 · exact Pr.le_refl _
theorem w_R24bit {b : Bool}  : Fun Tryz.prog 128 [bool b] (int (bitI b)) := by
 refine fo Tryz.func128 rfl ⟨rfl, rfl⟩ fun M0 w0 => ?_
 refine ac ?_
 refine ac ?_
 refine Tr.cn rfl ?_ ?_ <;> intro h1 q1
 refine ac ?_
 refine ac ?_
 · exact int_eq (by simp_all [bitI])
 refine ac ?_
 refine ac ?_
 refine ac ?_
 · exact int_eq (by simp_all [bitI])
theorem w_R24value {e : Ept} {k : Int}  : Fun Tryz.prog 81 [agg (rowEp e), int k] (tup [int (valR e k).1, bool (valR e k).2]) := by
 refine fo Tryz.func81 rfl ⟨rfl, rfl⟩ fun M0 w0 => ?_
 refine ac ?_
 refine ac ?_
 refine ac ?_
 refine Tr.cn rfl ?_ ?_ <;> intro h1 q1
 refine ac ?_
 refine Tr.ret (Fin.block_ret (Fin.then_ret (Fin.ret2 rfl (OutW.bse _ _) rfl ?_ rfl ?_)))
 · exact int_eq (by simp_all [valR])
 · exact bool_eq (by simp_all [valR])
 refine ac ?_
 refine Tr.cn rfl ?_ ?_ <;> intro h2 q2
 refine ac ?_
 refine Tr.ret (Fin.block_ret (Fin.then_ret (Fin.ret2 rfl (OutW.bse _ _) rfl ?_ rfl ?_)))
 · exact int_eq (by simp_all [valR])
 · exact bool_eq (by simp_all [valR])
 refine ac ?_
 refine Tr.cn rfl ?_ ?_ <;> intro h3 q3
 refine ac ?_
 refine co rfl (kc1 (w_R24bit) rfl rfl) ?_
 refine ac ?_
 refine wk2 4 5 rfl (Tr.ret (Fin.block_ret (Fin.then_ret (Fin.ret2 rfl (OutW.bse _ _) rfl ?_ rfl ?_))))
 · exact int_eq (by simp_all [valR])
 · exact bool_eq (by simp_all [valR])
 refine ac ?_
 refine Tr.cn rfl ?_ ?_ <;> intro h4 q4
 refine ac ?_
 refine co rfl (kc1 (w_R24bit) rfl rfl) ?_
 refine ac ?_
 refine wk2 4 5 rfl (Tr.ret (Fin.block_ret (Fin.then_ret (Fin.ret2 rfl (OutW.bse _ _) rfl ?_ rfl ?_))))
 · exact int_eq (by simp_all [valR])
 · exact bool_eq (by simp_all [valR])
 refine ac ?_
 refine ac ?_
 refine wk2 4 5 rfl (Tr.ret (Fin.ret2 rfl (OutW.bse _ _) rfl ?_ rfl ?_))
 · exact int_eq (by simp_all [valR])
 · exact bool_eq (by simp_all [valR])
theorem w_R24form {c : Chg} (hcs : c.idn.small) : Fun Tryz.prog 119 [agg (rowChg c)] (bool (decide (okCh c))) := by
 refine fo Tryz.func119 rfl ⟨rfl, rfl⟩ fun M0 w0 => ?_
 refine ac ?_
 refine ac ?_
 refine co rfl (ok_call rfl (w_R24SameI (a := c.idn) (b := zeroId) hcs) ⟨ke rfl, ⟨_, rfl, agg_le ⟨Pr.le_refl _, Pr.le_refl _, Pr.le_refl _, nil_slice 15, trivial⟩⟩, trivial⟩) ?_
 refine ac ?_
 refine ac ?_
 refine ac ?_
 refine Tr.cn rfl ?_ ?_ <;> intro h1 q1
 refine ac ?_
 refine ac ?_
 · refine bool_eq ?_; (try simp only [noneB_dec] at *); rw [Bool.eq_iff_iff, decide_eq_true_eq]; unfold okCh leanB; simp_all
 refine ac ?_
 refine Tr.cn rfl ?_ ?_ <;> intro h2 q2
 refine ac ?_
 refine wk1 2 rfl ?_
 refine ac ?_
 · refine bool_eq ?_; (try simp only [noneB_dec] at *); rw [Bool.eq_iff_iff, decide_eq_true_eq]; unfold okCh leanB; simp_all
 refine ac ?_
 refine ac ?_
 refine Ch.cs 21 rfl ?_ ?_ <;> intro h3 q3
 refine ac ?_
 refine Ch.cs 26 rfl ?_ ?_ <;> intro h4 q4
 refine ac ?_
 refine Ch.cs 29 rfl ?_ ?_ <;> intro h5 q5
 refine ac ?_
 refine wk1 2 rfl ?_
 refine ac ?_
 · refine bool_eq ?_; (try simp only [noneB_dec] at *); rw [Bool.eq_iff_iff, decide_eq_true_eq]; unfold okCh leanB; simp_all
 refine ac ?_
 refine wk1 2 rfl ?_
 refine ac ?_
 · refine bool_eq ?_; (try simp only [noneB_dec] at *); rw [Bool.eq_iff_iff, decide_eq_true_eq]; unfold okCh leanB; simp_all
 refine ac ?_
 refine wk1 2 rfl ?_
 refine ac ?_
 · refine bool_eq ?_; (try simp only [noneB_dec] at *); rw [Bool.eq_iff_iff, decide_eq_true_eq]; unfold okCh leanB; simp_all; omega
 refine ac ?_
 refine wk1 2 rfl ?_
 refine ac ?_
 · refine bool_eq ?_; (try simp only [noneB_dec] at *); rw [Bool.eq_iff_iff, decide_eq_true_eq]; unfold okCh leanB; simp_all; omega
theorem w_R24listed {e : Ept} {k : Int}  : Fun Tryz.prog 120 [agg (rowEp e), int k] (tup [ints (lstR e k).1, bool (lstR e k).2.1, bool (lstR e k).2.2]) := by
 refine fo Tryz.func120 rfl ⟨rfl, rfl⟩ fun M0 w0 => ?_
 refine ac ?_
 refine ac ?_
 refine ac ?_
 refine Tr.cn rfl ?_ ?_ <;> intro h1 q1
 refine ac ?_
 refine Tr.cond rfl (fun _ => ?_) (fun h => nomatch h1.symm.trans h)
 refine ac ?_
 refine wk3 4 5 6 rfl (Tr.ret (Fin.block_ret (Fin.then_ret (Fin.ret3 rfl (OutW.bse _ _) rfl ?_ rfl ?_ rfl ?_))))
 · exact Pr.le_of_eq (by simp_all [lstR])
 · exact bool_eq (by simp_all [lstR])
 · exact bool_eq (by simp_all [lstR])
 refine ac ?_
 refine Tr.cn rfl ?_ ?_ <;> intro h2 q2
 refine ac ?_
 refine wk3 4 5 6 rfl (Tr.ret (Fin.block_ret (Fin.then_ret (Fin.ret3 rfl (OutW.bse _ _) rfl ?_ rfl ?_ rfl ?_))))
 · exact Pr.le_of_eq (by simp_all [lstR])
 · exact bool_eq (by simp_all [lstR])
 · exact bool_eq (by simp_all [lstR])
 refine ac ?_
 refine Tr.cn rfl ?_ ?_ <;> intro h3 q3
 refine ac ?_
 refine Tr.cond rfl (fun _ => ?_) (fun h => nomatch h3.symm.trans h)
 refine ac ?_
 refine wk3 4 5 6 rfl (Tr.ret (Fin.block_ret (Fin.then_ret (Fin.ret3 rfl (OutW.bse _ _) rfl ?_ rfl ?_ rfl ?_))))
 · exact Pr.le_of_eq (by simp_all [lstR])
 · exact bool_eq (by simp_all [lstR])
 · exact bool_eq (by simp_all [lstR])
 refine ac ?_
 refine Tr.cn rfl ?_ ?_ <;> intro h4 q4
 refine ac ?_
 refine wk3 4 5 6 rfl (Tr.ret (Fin.block_ret (Fin.then_ret (Fin.ret3 rfl (OutW.bse _ _) rfl ?_ rfl ?_ rfl ?_))))
 · exact Pr.le_of_eq (by simp_all [lstR])
 · exact bool_eq (by simp_all [lstR])
 · exact bool_eq (by simp_all [lstR])
 refine ac ?_
 refine wk4 1 2 7 22 rfl ?_
 refine Tr.cn rfl ?_ ?_ <;> intro h5 q5
 refine ac ?_
 refine Tr.cond rfl (fun _ => ?_) (fun h => nomatch h5.symm.trans h)
 refine ac ?_
 refine Tr.ret (Fin.block_ret (Fin.then_ret (Fin.ret3 rfl (OutW.bse _ _) rfl ?_ rfl ?_ rfl ?_)))
 · exact Pr.le_of_eq (by simp_all [lstR])
 · exact bool_eq (by simp_all [lstR])
 · exact bool_eq (by simp_all [lstR])
 refine ac ?_
 refine Tr.cn rfl ?_ ?_ <;> intro h6 q6
 refine ac ?_
 refine Tr.ret (Fin.block_ret (Fin.then_ret (Fin.ret3 rfl (OutW.bse _ _) rfl ?_ rfl ?_ rfl ?_)))
 · exact Pr.le_of_eq (by simp_all [lstR])
 · exact bool_eq (by simp_all [lstR])
 · exact bool_eq (by simp_all [lstR])
 refine ac ?_
 refine ac ?_
 refine Tr.ret (Fin.ret3 rfl (OutW.bse _ _) rfl ?_ rfl ?_ rfl ?_)
 · exact Pr.le_trans (nil_slice 1) (Pr.le_of_eq (by rw [show (lstR e k).1 = [] by simp_all [lstR]]; rfl))
 · exact bool_eq (by simp_all [lstR])
 · exact bool_eq (by simp_all [lstR])
theorem w_R24with {l : List Int} {i : Nat} {n : Int} (hi : i ≤ l.length) (hl : l.length ≤ 1000000) : Fun Tryz.prog 121 [ints l, int ((i : Nat) : Int), int n] (ints (l.take i ++ [n] ++ l.drop i)) := by
 refine fo Tryz.func121 rfl ⟨rfl, rfl⟩ fun M0 w0 => ?_
 have hml : (l.map fun n : Int => [int n]).length = l.length := List.length_map _
 refine ac ?_
 refine ap ?_
 refine tp rfl (ok_sliceTo rfl Tryz.underlying22 sz3 (vl rfl) (vl rfl) (by omega) (by omega)) (TO.pad ?_)
 refine TO.efs 0 rfl rfl (by decide) (ef_append rfl rfl (by decide) rfl Tryz.underlying22 sz3 by3 z3 rfl (by decide) ⟨_, rfl, nil_slice _⟩ (vl rfl) (by simp only [List.length_map, List.length_append, List.length_cons, List.length_nil, List.length_take, List.length_drop]; unfold maxLen; omega) (by simp only [List.length_map, List.length_append, List.length_cons, List.length_nil, List.length_take, List.length_drop]; omega) (appR_full (by exact List.Mem.head _) ⟨_, rfl, nil_full 1⟩)) (fun v1 => ?_)
 refine ap ?_
 refine ap ?_
 refine TO.efs 0 rfl rfl (by decide) (ef_append rfl rfl (by decide) rfl Tryz.underlying22 sz3 by3 z3 rfl (by decide) ⟨_, rfl, andIs_le _ _⟩ ⟨_, rfl, full_le _ _⟩ (by simp only [List.length_map, List.length_append, List.length_cons, List.length_nil, List.length_take, List.length_drop]; unfold maxLen; omega) (by simp only [List.length_map, List.length_append, List.length_cons, List.length_nil, List.length_take, List.length_drop]; omega) (appR_is (by exact List.Mem.head _) ⟨_, rfl, andIs_is _ _⟩)) (fun v2 => ?_)
 refine ap ?_
 refine ap ?_
 refine tp rfl (ok_sliceFrom rfl Tryz.underlying22 sz3 (vl rfl) (vl rfl) (by omega) (by omega)) ?_
 refine TO.efs 0 rfl rfl (by decide) (ef_append rfl rfl (by decide) rfl Tryz.underlying22 sz3 by3 z3 rfl (by decide) ⟨_, rfl, andIs_le _ _⟩ (vl rfl) (by simp only [List.length_map, List.length_append, List.length_cons, List.length_nil, List.length_take, List.length_drop]; unfold maxLen; omega) (by simp only [List.length_map, List.length_append, List.length_cons, List.length_nil, List.length_take, List.length_drop]; omega) (appR_is (by exact List.Mem.head _) ⟨_, rfl, andIs_is _ _⟩)) (fun v3 => ?_)
 refine ap ?_
 refine wk1 6 rfl ?_
 refine ac ?_
 · exact Pr.le_trans (andIs_le _ _) (Pr.le_of_eq (by show _ = slice 1 ((l.take i ++ [n] ++ l.drop i).map fun n => [int n]); simp [List.map_take, List.map_drop]))
theorem w_R24without {l : List Int} {i : Nat} (hi : i < l.length) (hl : l.length ≤ 1000000) : Fun Tryz.prog 122 [ints l, int ((i : Nat) : Int)] (ints (l.eraseIdx i)) := by
 refine fo Tryz.func122 rfl ⟨rfl, rfl⟩ fun M0 w0 => ?_
 have hml : (l.map fun n : Int => [int n]).length = l.length := List.length_map _
 refine ac ?_
 refine ap ?_
 refine tp rfl (ok_sliceTo rfl Tryz.underlying22 sz3 (vl rfl) (vl rfl) (by omega) (by omega)) (TO.pad ?_)
 refine TO.efs 0 rfl rfl (by decide) (ef_append rfl rfl (by decide) rfl Tryz.underlying22 sz3 by3 z3 rfl (by decide) ⟨_, rfl, nil_slice _⟩ (vl rfl) (by simp only [List.length_map, List.length_append, List.length_cons, List.length_nil, List.length_take, List.length_drop]; unfold maxLen; omega) (by simp only [List.length_map, List.length_append, List.length_cons, List.length_nil, List.length_take, List.length_drop]; omega) (appR_full (by exact List.Mem.head _) ⟨_, rfl, nil_full 1⟩)) (fun v1 => ?_)
 refine ap ?_
 refine ap ?_
 refine tp rfl (ok_sliceFrom rfl Tryz.underlying22 sz3 (vl rfl) (vl rfl) (by omega) (by omega)) ?_
 refine TO.efs 0 rfl rfl (by decide) (ef_append rfl rfl (by decide) rfl Tryz.underlying22 sz3 by3 z3 rfl (by decide) ⟨_, rfl, andIs_le _ _⟩ (vl rfl) (by simp only [List.length_map, List.length_append, List.length_cons, List.length_nil, List.length_take, List.length_drop]; unfold maxLen; omega) (by simp only [List.length_map, List.length_append, List.length_cons, List.length_nil, List.length_take, List.length_drop]; omega) (appR_is (by exact List.Mem.head _) ⟨_, rfl, andIs_is _ _⟩)) (fun v2 => ?_)
 refine ap ?_
 refine ac ?_
 · exact Pr.le_trans (andIs_le _ _) (Pr.le_of_eq (by rw [List.eraseIdx_eq_take_drop_succ]; show _ = slice 1 ((l.take i ++ l.drop (i + 1)).map fun n => [int n]); simp [List.map_take, List.map_drop, show (((i : Nat) : Int) + 1).toNat = i + 1 by omega]))
theorem w_R24sorted {l : List Int} {n : Int} (hl : l.length ≤ 1000000) : Fun Tryz.prog 123 [ints l, int n] (ints (insX l n)) := by
 refine fo Tryz.func123 rfl ⟨rfl, rfl⟩ fun M0 w0 => (Tr.lenm 0 rfl fun hlm_0 => ?_)
 refine ac ?_
 refine ac ?_
 refine Tr.seq (Tr.block (Tr.loopw [(0, _), (1, _)] (kk2 rfl) (fun k : Nat => [(5, int ((k : Nat) : Int))]) (fun k : Nat => k ≤ l.length ∧ (∀ j y, j < k → l[j]? = some y → y < n)) (fun k : Nat => l.length - k) 0 (⟨Nat.zero_le _, fun j y hj => absurd hj (by omega)⟩) ⟨ke rfl, trivial⟩ ?_))
 rintro k ⟨hle_k, hinv⟩
 refine ac ?_
 refine Ch.cs 10 rfl ?_ ?_ <;> intro h1 q1
 obtain ⟨x, hx⟩ := at_ (l := l) (k := k) (by omega)
 refine ac ?_
 refine cy h1 rfl (ok_indexAddr rfl Tryz.underlying22 sz3 (vl rfl) (vl rfl) (by omega) (row_at hx)) ?_
 refine ac ?_
 refine wk4 0 1 5 17 rfl ?_
 refine Tr.cn rfl ?_ ?_ <;> intro h2 q2
 have hq := h2
 refine ac ?_
 refine ac ?_
 exact Fin.fam_same (k + 1) ⟨⟨by omega, bsX hinv hx (by simpa using hq)⟩, by omega⟩ ⟨⟨_, rfl, int_succ k⟩, ke rfl, ke rfl, trivial⟩
 have hp : posI l n = k := posI_eq hle_k hinv (fun y hy => by have h_ := h2; rw [hx] at hy; cases hy; simpa using h_)
 refine ac ?_
 refine ac ?_
 refine co rfl (ok_call rfl (w_R24with (l := l) (i := posI l n) (posI_le _ _) hl) ⟨ke rfl, ⟨_, rfl, int_eq (by omega)⟩, ke rfl, trivial⟩) ?_
 refine ac ?_
 refine ac ?_
 · exact Pr.le_refl _
 have hp : posI l n = k := posI_eq hle_k hinv (fun y hy => by have := lt_of_at hy; have := q1; omega)
 refine ac ?_
 refine wk4 0 1 5 17 rfl ?_
 refine ac ?_
 refine ac ?_
 refine co rfl (ok_call rfl (w_R24with (l := l) (i := posI l n) (posI_le _ _) hl) ⟨ke rfl, ⟨_, rfl, int_eq (by omega)⟩, ke rfl, trivial⟩) ?_
 refine ac ?_
 refine ac ?_
 · exact Pr.le_refl _
end Go.Proofs.YtppeeogffbpcbaaGreat
namespace Go.Proofs.YtppeeogffbpcbaaGreat
open Go Go.RowKit Cp

def alw (e : Ept) (c : Chg) : Int :=
  if eptB e = false then 19 else if ¬ okCh c then 40
  else if c.kind = 1 ∧ (c.at_ < 0 ∨ (e.suites.length : Int) < c.at_) then 2
  else if c.kind = 5 ∧ (c.at_ < 0 ∨ (e.ids.length : Int) < c.at_) then 2
  else if (c.kind = 11 ∨ c.kind = 12) ∧ (c.number ≠ 0 ∧ c.number ≠ 1) then 2
  else if (lstR e c.kind).2.2 = true ∧ decide (0 ≤ idx (fun y => c.number == y) (lstR e c.kind).1) = (lstR e c.kind).2.1 then 41
  else if (valR e c.kind).2 = true ∧ (valR e c.kind).1 = c.number then 41
  else if c.kind = 5 ∧ 0 < cntK c.idn.keyId e.ids then 41
  else if c.kind = 6 ∧ cntK c.number e.ids = 0 then 41
  else if c.kind = 6 ∧ 1 < cntK c.number e.ids then 5 else 0
theorem idx_has {l : List Int} (hs : AscI l) {n : Int} : idx (fun y => n == y) l = if hasX l n = true then ((posI l n : Nat) : Int) else -1 := by
  by_cases h : hasX l n = true
  · rw [if_pos h]
    obtain ⟨y, hy⟩ := at_ (hasX_lt h)
    have hyn : y = n := by have h2 := hasX_at rfl hy; rw [h] at h2; simpa using h2.symm
    exact (idx_found (p := fun y => n == y) hy (by simp [hyn]) (fun j z hj hz => by have := posI_lt hj hz; simp; omega)).symm
  · rw [if_neg h]
    refine (idx_none (p := fun y => n == y) (fun j z hj hz => ?_)).symm
    simp only [beq_eq_false_iff_ne, ne_eq]
    intro hn; subst hn
    rcases Nat.lt_trichotomy j (posI l n) with h1 | h1 | h1
    · have := posI_lt h1 hz; omega
    · subst h1; exact h (by rw [hasX_at rfl hz]; simp)
    · obtain ⟨y, hy⟩ := at_ (l := l) (k := posI l n) (by have := lt_of_at hz; omega)
      have h2 := posI_ge hy
      have h3 := ascI_lt hs h1 hy hz
      omega
theorem dup_cnt {l : List Idn} {n : Int} {x : Idn} (h0 : ¬ keyIdx n l < 0) (hx : l[(keyIdx n l).toNat]? = some x) : (1 < cntK n l) ↔ ((l.drop (keyIdx n l + 1).toNat).any fun x => x.keyId == n) = true := by
  obtain ⟨y, hy, hp, hlt⟩ := idx_hit (p := keyP n) (l := l) (by rw [← keyIdx_eq]; omega)
  rw [← keyIdx_eq] at hy hlt
  have hsplit : l = l.take (keyIdx n l).toNat ++ y :: l.drop ((keyIdx n l).toNat + 1) := by
    rw [List.getElem?_eq_getElem hlt] at hy; cases hy
    rw [List.getElem_cons_drop]; exact (List.take_append_drop _ _).symm
  have h1 : (l.take (keyIdx n l).toNat).countP (keyP n) = 0 := by
    refine idx_cnt.1 (Int.not_le.1 fun h2 => ?_)
    obtain ⟨z, hz, hzp, hzl⟩ := idx_hit h2
    have e1 : keyIdx n l = idx (keyP n) (l.take (keyIdx n l).toNat) := by
      obtain ⟨i, hi⟩ : ∃ i : Nat, idx (keyP n) (l.take (keyIdx n l).toNat) = (i : Int) := ⟨_, (Int.toNat_of_nonneg h2).symm⟩
      have h3 : ((l.take (keyIdx n l).toNat).findIdx? (keyP n)) = some i := by
        unfold idx at hi; cases h4 : (l.take (keyIdx n l).toNat).findIdx? (keyP n) with
        | none => rw [h4] at hi; simp at hi
        | some k => rw [h4] at hi; rw [show k = i by simp at hi; omega]
      have h5 : l.findIdx? (keyP n) = some i := by
        rw [← List.take_append_drop (keyIdx n l).toNat l, List.findIdx?_append, h3]; rfl
      have e2 : idx (keyP n) l = (i : Int) := by unfold idx; rw [h5]
      exact e2.trans hi.symm
    rw [← e1] at hzl; rw [List.length_take] at hzl; omega
  have h2 : l.countP (keyP n) = 1 + (l.drop ((keyIdx n l).toNat + 1)).countP (keyP n) := by
    conv => lhs; rw [hsplit]
    rw [List.countP_append, h1, List.countP_cons, hp]; simp; omega
  unfold cntK; rw [h2, show (keyIdx n l + 1).toNat = (keyIdx n l).toNat + 1 by omega]
  show _ ↔ (List.any _ (keyP n)) = true
  rw [List.any_eq_true, ← List.countP_pos_iff]; omega
theorem dec_any {l : List Int} {n : Int} : decide (0 ≤ idx (fun y => n == y) l) = l.any fun y => n == y := idx_any _ _
theorem dec_has {l : List Int} (hs : AscI l) {n : Int} : decide (0 ≤ idx (fun y => n == y) l) = hasX l n := by
  rw [idx_has hs]; cases hasX l n <;> simp
theorem alw_step {e : Ept} {c : Chg} (hce : eptB e = true) (hc : okCh c) : alw e c = match stepR e c with | .error f => f | .ok _ => 0 := by
  have ok := eptB_iff.1 hce
  have ha := ascI_of ok.anc; have hh := ascI_of ok.hash
  have hk := hc.1
  unfold alw
  rw [if_neg (by rw [hce]; decide), if_neg (not_not_intro hc)]
  have h0 : c.kind = 1 ∨ c.kind = 2 ∨ c.kind = 3 ∨ c.kind = 4 ∨ c.kind = 5 ∨ c.kind = 6 ∨ c.kind = 7 ∨ c.kind = 8 ∨ c.kind = 9 ∨ c.kind = 10 ∨ c.kind = 11 ∨ c.kind = 12 := by omega
  rcases h0 with h | h | h | h | h | h | h | h | h | h | h | h
  · rw [stepR_1 h]; unfold lstR valR; simp only [h]
    by_cases h1 : c.at_ < 0 ∨ (e.suites.length : Int) < c.at_
    · have h2 : ¬ (0 ≤ c.at_ ∧ c.at_ ≤ (e.suites.length : Int)) := by omega
      simp [h1, h2]
    · have h2 : 0 ≤ c.at_ ∧ c.at_ ≤ (e.suites.length : Int) := by omega
      have h3 := dec_any (l := e.suites) (n := c.number)
      have h4 : (0 ≤ idx (fun y => c.number == y) e.suites) ↔ (e.suites.any fun y => c.number == y) = true := by rw [← h3, decide_eq_true_eq]
      by_cases h5 : (e.suites.any fun y => c.number == y) = true
      · have h6 := h4.2 h5; simp only [h5]; simp [h1, h2, h6]
      · have h6 : ¬ 0 ≤ idx (fun y => c.number == y) e.suites := fun h => h5 (h4.1 h)
        simp only [h5]; simp [h1, h2, h6]
  · rw [stepR_2 h]; unfold lstR valR sIdx; simp only [h]
    by_cases h1 : idx (fun y => c.number == y) e.suites < 0
    · simp [h1]
    · simp [h1]
  · rw [stepR_3 h]; unfold lstR valR; simp only [h]; by_cases h1 : e.most = c.number <;> simp [h1]
  · rw [stepR_4 h]; unfold lstR valR; simp only [h]; by_cases h1 : e.least = c.number <;> simp [h1]
  · rw [stepR_5 h]; unfold lstR valR; simp only [h]
    have hcnt := idx_cnt (p := keyP c.idn.keyId) (l := e.ids)
    rw [← keyIdx_eq] at hcnt
    by_cases h1 : c.at_ < 0 ∨ (e.ids.length : Int) < c.at_
    · have h2 : ¬ (0 ≤ c.at_ ∧ c.at_ ≤ (e.ids.length : Int)) := by omega
      simp [h1, h2]
    · have h3 : 0 ≤ c.at_ ∧ c.at_ ≤ (e.ids.length : Int) := by omega
      by_cases h2 : 0 ≤ keyIdx c.idn.keyId e.ids
      · have : 0 < cntK c.idn.keyId e.ids := by unfold cntK; omega
        simp [h1, h2, h3, this]
      · have : ¬ 0 < cntK c.idn.keyId e.ids := by unfold cntK; omega
        simp [h1, h2, h3, this]
  · rw [stepR_6 h]; unfold lstR valR; simp only [h]
    have hcnt := idx_cnt (p := keyP c.number) (l := e.ids)
    rw [← keyIdx_eq] at hcnt
    by_cases h2 : keyIdx c.number e.ids < 0
    · have : cntK c.number e.ids = 0 := by unfold cntK; omega
      cases e.ids[(keyIdx c.number e.ids).toNat]? <;> simp [h2, this]
    · have h3 : ¬ cntK c.number e.ids = 0 := by unfold cntK; omega
      obtain ⟨x, hx, _, _⟩ := idx_hit (p := fun x : Idn => x.keyId == c.number) (l := e.ids) (by unfold keyIdx at h2; omega)
      have hx : e.ids[(keyIdx c.number e.ids).toNat]? = some x := hx
      have hd := dup_cnt h2 hx
      rw [hx]; simp only [if_neg h2]
      by_cases h4 : ((e.ids.drop (keyIdx c.number e.ids + 1).toNat).any fun x => x.keyId == c.number) = true
      · have := hd.2 h4; simp only [h4]; simp [h3, this]
      · have : ¬ 1 < cntK c.number e.ids := fun h5 => h4 (hd.1 h5)
        simp only [h4]; simp [h3, this]
  · rw [stepR_7 h]; unfold lstR valR; simp only [h]
    have h1 : (0 ≤ idx (fun y => c.number == y) e.anchors) ↔ hasX e.anchors c.number = true := by rw [← dec_has ha, decide_eq_true_eq]
    by_cases h2 : hasX e.anchors c.number = true
    · have h3 := h1.2 h2; simp [h2, h3]
    · have h3 : ¬ 0 ≤ idx (fun y => c.number == y) e.anchors := fun h => h2 (h1.1 h)
      simp [h2, h3]
  · rw [stepR_8 h]; unfold lstR valR; simp only [h]
    have h1 : (0 ≤ idx (fun y => c.number == y) e.anchors) ↔ hasX e.anchors c.number = true := by rw [← dec_has ha, decide_eq_true_eq]
    by_cases h2 : hasX e.anchors c.number = true
    · have h3 := h1.2 h2; simp [h2, h3]
    · have h3 : ¬ 0 ≤ idx (fun y => c.number == y) e.anchors := fun h => h2 (h1.1 h)
      simp [h2, h3]
  · rw [stepR_9 h]; unfold lstR valR; simp only [h]
    have h1 : (0 ≤ idx (fun y => c.number == y) e.hashes) ↔ hasX e.hashes c.number = true := by rw [← dec_has hh, decide_eq_true_eq]
    by_cases h2 : hasX e.hashes c.number = true
    · have h3 := h1.2 h2; simp [h2, h3]
    · have h3 : ¬ 0 ≤ idx (fun y => c.number == y) e.hashes := fun h => h2 (h1.1 h)
      simp [h2, h3]
  · rw [stepR_10 h]; unfold lstR valR; simp only [h]
    have h1 : (0 ≤ idx (fun y => c.number == y) e.hashes) ↔ hasX e.hashes c.number = true := by rw [← dec_has hh, decide_eq_true_eq]
    by_cases h2 : hasX e.hashes c.number = true
    · have h3 := h1.2 h2; simp [h2, h3]
    · have h3 : ¬ 0 ≤ idx (fun y => c.number == y) e.hashes := fun h => h2 (h1.1 h)
      simp [h2, h3]
  · rw [stepR_11 h]; unfold lstR valR; simp only [h]
    by_cases h1 : 0 ≤ c.number ∧ c.number ≤ 1
    · have : ¬ (c.number ≠ 0 ∧ c.number ≠ 1) := by omega
      by_cases h2 : bitI e.fall = c.number <;> simp [this, h1, h2]
    · have : c.number ≠ 0 ∧ c.number ≠ 1 := by omega
      simp [this, h1]
  · rw [stepR_12 h]; unfold lstR valR; simp only [h]
    by_cases h1 : 0 ≤ c.number ∧ c.number ≤ 1
    · have : ¬ (c.number ≠ 0 ∧ c.number ≠ 1) := by omega
      by_cases h2 : bitI e.own = c.number <;> simp [this, h1, h2]
    · have : c.number ≠ 0 ∧ c.number ≠ 1 := by omega
      simp [this, h1]
theorem alw_bad {e : Ept} {c : Chg} (h : alw e c ≠ 0) : doneR e c = (zeroEp, zeroChg, alw e c) := by
  by_cases hce : eptB e = false
  · have : alw e c = 19 := by unfold alw; rw [if_pos hce]
    rw [this]; unfold doneR; rw [if_pos hce]
  · by_cases hc : okCh c
    · have hce : eptB e = true := by simpa using hce
      have hs := alw_step hce hc
      cases h2 : stepR e c with
      | error f => rw [h2] at hs; rw [doneR_err hce hc h2, show alw e c = f from hs]
      | ok r => rw [h2] at hs; exact absurd hs h
    · have : alw e c = 40 := by unfold alw; rw [if_neg hce, if_pos hc]
      rw [this]; unfold doneR; rw [if_neg hce, if_pos hc]
theorem alw_ok {e : Ept} {c : Chg} (h : alw e c = 0) : eptB e = true ∧ okCh c ∧ ∃ e2 b, stepR e c = .ok (e2, b) := by
  by_cases hce : eptB e = false
  · have : alw e c = 19 := by unfold alw; rw [if_pos hce]
    rw [this] at h; cases h
  · by_cases hc : okCh c
    · have hce : eptB e = true := by simpa using hce
      have hs := alw_step hce hc
      cases h2 : stepR e c with
      | error f =>
        rw [h2] at hs; rw [h] at hs
        have h3 : (0 : Int) = f := hs
        have := stepR_ne hc h2; omega
      | ok r => exact ⟨hce, hc, r.1, r.2, rfl⟩
    · have : alw e c = 40 := by unfold alw; rw [if_neg hce, if_pos hc]
      rw [this] at h; cases h

end Go.Proofs.YtppeeogffbpcbaaGreat
namespace Go.Proofs.YtppeeogffbpcbaaGreat
open Go Go.RowKit Cp

theorem take_snocM {β γ : Type} {f : β → γ} {l : List β} {k : Nat} {x : β} (h : l[k]? = some x) : (l.take k).map f ++ [f x] = (l.take (k + 1)).map f := by rw [List.take_add_one, h, List.map_append]; rfl

theorem w_R24CopyI {x : Idn} (hx : x.small) : Fun Tryz.prog 80 [agg (rowId x)] (agg (rowId x)) := by
 refine fo Tryz.func80 rfl ⟨rfl, rfl⟩ fun M0 w0 => ?_
 have hch := hx.chain
 refine Tr.seq (Tr.regT (tp rfl (ok_box rfl (VL.le (vl rfl) (agg_cellsP _))) ?_))
 refine TO.alloc rfl rfl (by decide) rfl z27 zo27 (fun b1 => ?_)
 refine ap ?_
 refine ap ?_
 refine TO.alloc rfl rfl (by decide) rfl z27 zo27 (fun b2 => ?_)
 refine ap ?_
 refine ac ?_
 refine wk5 2 3 12 13 14 rfl (Tr.block (Tr.reC 0 [int x.alg, int x.bits, int x.keyId, andIs (.slice none 0 0) (slice 15 ((x.chain.take 0).map rowCr))] rfl ⟨Pr.le_refl _, Pr.le_refl _, Pr.le_refl _, own_nil rfl, trivial⟩ (Tr.addnil 131 15 (Tr.loopV1 [(2, _), (3, _), (12, _), (13, _)] ⟨ke rfl, ke rfl, ke rfl, ke rfl, trivial⟩ (fun k v => [(14, int ((k : Nat) : Int))]) (fun k v => Hp M0 w0 noS ([appRes 131 15 v, cellsRes true b2 27 [int x.alg, int x.bits, int x.keyId, andIs v (slice 15 ((x.chain.take k).map rowCr))], cellsRes true b1 27 (([.int .i64 0, .int .i64 0, .int .i64 0, .slice none 0 0] : List Value).map is)])) (fun k : Nat => k ≤ (x.chain).length) (fun k : Nat => (x.chain).length - k) 0 (.slice none 0 0) (Nat.zero_le _) ⟨ke rfl, trivial⟩ (fun _ _ h => h) ?_))))
 rintro k v hle_k
 refine ac ?_
 refine Tr.seq ?_
 refine Tr.cn rfl ?_ ?_ <;> intro h1 q1
 have hk_k : k < (x.chain).length := lt_of_dec h1
 obtain ⟨c, hx_k⟩ := at_ hk_k
 have hcn := hx.names c (List.mem_of_getElem? hx_k)
 refine ac ?_
 refine Tr.seq (Tr.block (Tr.seq (Tr.regT (tp rfl (ok_indexAddr rfl Tryz.underlying25 sz131 (vl rfl) (vl rfl) (by omega) (by exact row_at (by assumption))) ?_))))
 refine tp rfl (ok_loadA rfl agg131 sz131 (vl rfl) rfl rfl) ?_
 refine TO.alloc rfl rfl (by decide) rfl z131 zo131 (fun b3 => ?_)
 refine ap ?_
 refine ap ?_
 refine tp rfl (ok_appN rfl Tryz.underlying74 sz9 by9 z9 rfl (by decide) (vl rfl) (by simp only [List.length_map]; unfold maxLen; omega) (by simp only [List.length_map]; omega)) ?_
 refine ap ?_
 refine wk6 2 3 5 12 13 14 rfl ?_
 refine ap ?_
 refine TO.efs 1 rfl rfl (by decide) (ef_append rfl rfl (by decide) rfl Tryz.underlying25 sz131 by131 z131 rfl (by decide) ⟨_, rfl, andIs_le _ _⟩ ⟨_, rfl, full_le _ _⟩ (by simp only [List.length_map, List.length_append, List.length_cons, List.length_nil, List.length_take]; unfold maxLen; omega) (by simp only [List.length_map, List.length_append, List.length_cons, List.length_nil, List.length_take]; omega) (appR_is (by exact List.Mem.head _) ⟨_, rfl, andIs_is _ _⟩)) (fun v1 => ?_)
 refine ap ?_
 refine Tr.drop 0 ?_
 refine ac ?_
 refine Fin.reC 1 [int x.alg, int x.bits, int x.keyId, andIs v1 (slice 15 ((x.chain.take (k + 1)).map rowCr))] rfl ⟨Pr.le_refl _, Pr.le_refl _, Pr.le_refl _, own_le (take_snocM (f := rowCr) hx_k), trivial⟩ (Fin.famV1 (k + 1) v1 (⟨hk_k, by omega⟩) ⟨⟨_, rfl, int_succ k⟩, ke rfl, ke rfl, ke rfl, ke rfl, trivial⟩ (fun _ _ h => h))
 have he_k : k = (x.chain).length := by have := ge_of_dec h1; omega
 subst he_k
 refine ac ?_
 refine ap ?_
 refine Tr.ret (Fin.retX1 rfl (RVal.cell 2 rfl rfl agg27 sz27 rfl (Pr.le_refl _)) ?_)
 · exact agg_le ⟨Pr.le_refl _, Pr.le_refl _, Pr.le_refl _, Pr.le_trans (andIs_le _ _) (Pr.le_of_eq (by rw [List.take_length])), trivial⟩
theorem w_R24Copy {e : Ept} (hsm : e.small) : Fun Tryz.prog 96 [agg (rowEp e)] (agg (rowEp e)) := by
 refine fo Tryz.func96 rfl ⟨rfl, rfl⟩ fun M0 w0 => ?_
 have hs1 := hsm.suites
 have hs2 := hsm.anchors
 have hs3 := hsm.hashes
 have hs4 := hsm.idl
 refine Tr.seq (Tr.regT (tp rfl (ok_box rfl (VL.le (vl rfl) (agg_cellsP _))) ?_))
 refine TO.alloc rfl rfl (by decide) rfl z32 zo32 (fun b1 => ?_)
 refine ao ?_
 refine ao ?_
 refine TO.alloc rfl rfl (by decide) rfl z32 zo32 (fun b2 => ?_)
 refine TO.store_all 0 rfl rfl rfl (vl rfl) (VL.le (vl rfl) (agg_cellsP _)) rfl sz32 rfl rfl ?_
 refine ao ?_
 refine Tr.seq (Tr.rx ?_)
 refine ax ?_
 refine xo rfl (fun _ => ok_appN rfl Tryz.underlying22 sz3 by3 z3 rfl (by decide) (vl rfl) (by simp only [List.length_map]; unfold maxLen; omega) (by simp only [List.length_map]; omega)) ?_
 refine ax ?_
 refine xo rfl (fun _ => ok_appN rfl Tryz.underlying22 sz3 by3 z3 rfl (by decide) (vl rfl) (by simp only [List.length_map]; unfold maxLen; omega) (by simp only [List.length_map]; omega)) ?_
 refine ax ?_
 refine xo rfl (fun _ => ok_appN rfl Tryz.underlying22 sz3 by3 z3 rfl (by decide) (vl rfl) (by simp only [List.length_map]; unfold maxLen; omega) (by simp only [List.length_map]; omega)) ?_
 refine xo rfl (fun _ => okp_fieldAddr rfl fo32_3 (vl rfl)) (Cx.ef0 0 rfl rfl (ef_store rfl rfl (vl rfl) (VL.le (vl rfl) (one_cellsP _)) sz22 rfl (by exact Nat.le_of_ble_eq_true rfl) rfl) (xo rfl (fun _ => okp_fieldAddr rfl fo32_6 (vl rfl)) (Cx.ef0 0 rfl rfl (ef_store rfl rfl (vl rfl) (VL.le (vl rfl) (one_cellsP _)) sz22 rfl (by exact Nat.le_of_ble_eq_true rfl) rfl) (xo rfl (fun _ => okp_fieldAddr rfl fo32_7 (vl rfl)) (Cx.ef0 0 rfl rfl (ef_store rfl rfl (vl rfl) (VL.le (vl rfl) (one_cellsP _)) sz22 rfl (by exact Nat.le_of_ble_eq_true rfl) rfl) ?_)))))
 refine Cx.nil ⟨by kernel_rfl, ?_⟩
 refine FinX.done al2 (Fin.go (wk3 1 2 3 rfl ?_))
 refine ao ?_
 refine TO.ef0 0 rfl rfl (ef_store rfl rfl (vl rfl) (VL.le (vl rfl) (one_cellsP _)) sz30 rfl (by exact Nat.le_of_ble_eq_true rfl) rfl) ?_
 refine ao ?_
 refine ac ?_
 refine Tr.block (Tr.reC 0 [str e.name, int e.least, int e.most, ints e.suites, bool e.own, andIs (.slice none 0 0) (slice 4 ((e.ids.take 0).map rowId)), ints e.anchors, ints e.hashes, bool e.fall] rfl ⟨Pr.le_refl _, Pr.le_refl _, Pr.le_refl _, Pr.le_refl _, Pr.le_refl _, own_nil rfl, Pr.le_refl _, Pr.le_refl _, Pr.le_refl _, trivial⟩ (Tr.addnil 27 4 (Tr.loopV1 [(2, _), (3, _), (21, _), (22, _)] ⟨ke rfl, ke rfl, ke rfl, ke rfl, trivial⟩ (fun k v => [(23, int ((k : Nat) : Int))]) (fun k v => Hp M0 w0 noS ([appRes 27 4 v, cellsRes true b2 32 [str e.name, int e.least, int e.most, ints e.suites, bool e.own, andIs v (slice 4 ((e.ids.take k).map rowId)), ints e.anchors, ints e.hashes, bool e.fall], cellsRes true b1 32 (([.string (ByteArray.mk #[]), .int .i64 0, .int .i64 0, .slice none 0 0, .bool false, .slice none 0 0, .slice none 0 0, .slice none 0 0, .bool false] : List Value).map is)])) (fun k : Nat => k ≤ (e.ids).length) (fun k : Nat => (e.ids).length - k) 0 (.slice none 0 0) (Nat.zero_le _) ⟨ke rfl, trivial⟩ (fun _ _ h => h) ?_)))
 rintro k v hle_k
 refine ac ?_
 refine Tr.seq ?_
 refine Tr.cn rfl ?_ ?_ <;> intro h1 q1
 have hk_k : k < (e.ids).length := lt_of_dec h1
 obtain ⟨x, hx_k⟩ := at_ hk_k
 have hxs := hsm.ids x (List.mem_of_getElem? hx_k)
 refine ac ?_
 refine Tr.seq (Tr.block (Tr.seq (Tr.regT (tp rfl (ok_indexAddr rfl Tryz.underlying30 sz27 (vl rfl) (vl rfl) (by omega) (by exact row_at (by assumption))) ?_))))
 refine tp rfl (ok_loadA rfl agg27 sz27 (vl rfl) rfl rfl) ?_
 refine TO.alloc rfl rfl (by decide) rfl z27 zo27 (fun b3 => ?_)
 refine sf 0 5 ⟨rfl, rfl, rfl⟩ rfl rfl rfl rfl ?_
 refine ao ?_
 refine Tr.pad (Tr.rx ?_)
 refine ax ?_
 refine xo rfl (fun _ => kc1 (w_R24CopyI hxs) rfl rfl) (xo rfl (fun _ => ok_buildSlice (xs := [.tmp 30]) (rows := [_]) rfl rfl Tryz.underlying30 sz27 z27 rfl (by decide) ⟨⟨(by exact rfl), (VL.le (vl rfl) (agg_cellsP _))⟩, trivial⟩ (by decide)) ?_)
 refine Cx.ef 1 rfl rfl (by decide) (ef_append rfl rfl (by decide) rfl Tryz.underlying30 sz27 by27 z27 rfl (by decide) ⟨_, rfl, andIs_le _ _⟩ ⟨_, rfl, full_le _ _⟩ (by simp only [List.length_map, List.length_append, List.length_cons, List.length_nil, List.length_take]; unfold maxLen; omega) (by simp only [List.length_map, List.length_append, List.length_cons, List.length_nil, List.length_take]; omega) (appR_is (by exact List.Mem.head _) ⟨_, rfl, andIs_is _ _⟩)) ?_
 refine xo rfl (fun _ => okp_fieldAddr rfl fo32_5 (vl rfl)) (Cx.ef0 2 rfl rfl (ef_storeS rfl rfl rfl (vl rfl) rfl sz30 (by exact Nat.le_of_ble_eq_true rfl)) ?_)
 refine Cx.nil ⟨by kernel_rfl, ?_⟩
 refine FinX.open2 1 2 32 rfl rfl (by decide) rfl (fun v1 => ?_)
 refine FinX.done al4 ?_
 refine ac ?_
 refine Tr.drop 0 (wk5 2 3 21 22 23 rfl ?_)
 refine ac ?_
 refine Fin.reC 1 [str e.name, int e.least, int e.most, ints e.suites, bool e.own, andIs v1 (slice 4 ((e.ids.take (k + 1)).map rowId)), ints e.anchors, ints e.hashes, bool e.fall] rfl ⟨Pr.le_refl _, Pr.le_refl _, Pr.le_refl _, Pr.le_refl _, Pr.le_refl _, own_le (take_snocM (f := rowId) hx_k), Pr.le_refl _, Pr.le_refl _, Pr.le_refl _, trivial⟩ (Fin.famV1 (k + 1) v1 (⟨hk_k, by omega⟩) ⟨⟨_, rfl, int_succ k⟩, ke rfl, ke rfl, ke rfl, ke rfl, trivial⟩ (fun _ _ h => h))
 have he_k : k = (e.ids).length := by have := ge_of_dec h1; omega
 subst he_k
 refine ac ?_
 refine ao ?_
 refine TO.store_all 2 rfl rfl rfl (vl rfl) (VL.le (vl rfl) (agg_cellsP _)) rfl sz32 rfl rfl ?_
 refine ao ?_
 refine Tr.ret (Fin.retX1 rfl (RVal.cell 2 rfl rfl agg32 sz32 rfl (Pr.le_refl _)) ?_)
 · exact agg_le ⟨Pr.le_refl _, Pr.le_refl _, Pr.le_refl _, Pr.le_refl _, Pr.le_refl _, Pr.le_trans (andIs_le _ _) (Pr.le_of_eq (by rw [List.take_length])), Pr.le_refl _, Pr.le_refl _, Pr.le_refl _, trivial⟩
theorem w_R24allowed {e : Ept} {c : Chg} (hsm : e.small) (hcs : c.idn.small) : Fun Tryz.prog 75 [agg (rowEp e), agg (rowChg c)] (int (alw e c)) := by
 refine fo Tryz.func75 rfl ⟨rfl, rfl⟩ fun M0 w0 => ?_
 refine ac ?_
 refine ac ?_
 refine co rfl (kc1 (w_R9Check hsm) rfl rfl) ?_
 refine ac ?_
 refine Tr.cn rfl ?_ ?_ <;> intro h1 q1
 refine ac ?_
 refine ac ?_
 · refine int_eq ?_; unfold alw; repeat (refine (if_pos ?_).symm; simp_all)
 refine ac ?_
 refine ac ?_
 refine co rfl (kc1 (w_R24form (c := c) hcs) rfl rfl) ?_
 refine ac ?_
 refine Tr.cn rfl ?_ ?_ <;> intro h2 q2
 refine ac ?_
 refine ac ?_
 · refine int_eq ?_; unfold alw; repeat (first | (refine (if_pos ?_).symm; omega) | (refine Eq.trans ?_ (if_neg ?_).symm; rotate_left; focus (simp_all; done)))
 refine ac ?_
 refine wk2 2 3 rfl (Tr.cutk [2, 3] [] (¬ (c.kind = 1 ∧ (c.at_ < 0 ∨ (e.suites.length : Int) < c.at_)) ∧ ¬ (c.kind = 5 ∧ (c.at_ < 0 ∨ (e.ids.length : Int) < c.at_)) ∧ ¬ ((c.kind = 11 ∨ c.kind = 12) ∧ (c.number ≠ 0 ∧ c.number ≠ 1))) ?_ (fun hrng => ?_))
 refine ac ?_
 refine ac ?_
 refine Tr.cn rfl ?_ ?_ <;> intro h4 q4
 refine ac ?_
 refine Ch.cs 27 rfl ?_ ?_ <;> intro h5 q5
 refine ac ?_
 refine wk3 2 3 34 rfl ?_
 refine ac ?_
 refine ac ?_
 · refine int_eq ?_; unfold alw; repeat (first | (refine (if_pos ?_).symm; omega) | (refine Eq.trans ?_ (if_neg ?_).symm; rotate_left; focus (simp_all; done)))
 refine ac ?_
 refine wk3 2 3 34 rfl ?_
 refine Tr.cn rfl ?_ ?_ <;> intro h6 q6
 refine ac ?_
 refine ac ?_
 · refine int_eq ?_; unfold alw; repeat (first | (refine (if_pos ?_).symm; omega) | (refine Eq.trans ?_ (if_neg ?_).symm; rotate_left; focus (simp_all; done)))
 refine Tr.skip (Fin.block (Fin.fam_same () (by omega) (kk2 rfl)))
 refine ac ?_
 refine Tr.cn rfl ?_ ?_ <;> intro h7 q7
 refine ac ?_
 refine Ch.cs 40 rfl ?_ ?_ <;> intro h8 q8
 refine ac ?_
 refine wk3 2 3 47 rfl ?_
 refine ac ?_
 refine ac ?_
 · refine int_eq ?_; unfold alw; repeat (first | (refine Eq.trans ?_ (if_neg ?_).symm; rotate_left; focus (omega)) | (refine (if_pos ?_).symm; omega) | (refine Eq.trans ?_ (if_neg ?_).symm; rotate_left; focus (simp_all; done)))
 refine ac ?_
 refine wk3 2 3 47 rfl ?_
 refine Tr.cn rfl ?_ ?_ <;> intro h9 q9
 refine ac ?_
 refine ac ?_
 · refine int_eq ?_; unfold alw; repeat (first | (refine Eq.trans ?_ (if_neg ?_).symm; rotate_left; focus (omega)) | (refine (if_pos ?_).symm; omega) | (refine Eq.trans ?_ (if_neg ?_).symm; rotate_left; focus (simp_all; done)))
 refine Tr.skip (Fin.block (Fin.fam_same () (by omega) (kk2 rfl)))
 refine ac ?_
 refine Tr.cn rfl ?_ ?_ <;> intro h10 q10
 refine ac ?_
 refine Tr.cond rfl (fun _ => ?_) (fun h => nomatch h10.symm.trans h)
 refine ac ?_
 refine Ch.cs 54 rfl ?_ ?_ <;> intro h11 q11
 refine ac ?_
 refine wk3 2 3 58 rfl ?_
 refine Tr.cn rfl ?_ ?_ <;> intro h12 q12
 refine ac ?_
 refine ac ?_
 · refine int_eq ?_; unfold alw; repeat (first | (refine Eq.trans ?_ (if_neg ?_).symm; rotate_left; focus (omega)) | (refine (if_pos ?_).symm; omega) | (refine Eq.trans ?_ (if_neg ?_).symm; rotate_left; focus (simp_all; done)))
 refine Tr.skip (Fin.block (Fin.fam_same () (by omega) (kk2 rfl)))
 refine ac ?_
 refine wk3 2 3 58 rfl (Tr.cond rfl (fun h => nomatch h) (fun _ => ?_))
 refine Tr.skip (Fin.block (Fin.fam_same () (by omega) (kk2 rfl)))
 refine ac ?_
 refine Tr.cn rfl ?_ ?_ <;> intro h13 q13
 refine ac ?_
 refine Ch.cs 54 rfl ?_ ?_ <;> intro h14 q14
 refine ac ?_
 refine wk3 2 3 58 rfl ?_
 refine Tr.cn rfl ?_ ?_ <;> intro h15 q15
 refine ac ?_
 refine ac ?_
 · refine int_eq ?_; unfold alw; repeat (first | (refine Eq.trans ?_ (if_neg ?_).symm; rotate_left; focus (omega)) | (refine (if_pos ?_).symm; omega) | (refine Eq.trans ?_ (if_neg ?_).symm; rotate_left; focus (simp_all; done)))
 refine Tr.skip (Fin.block (Fin.fam_same () (by omega) (kk2 rfl)))
 refine ac ?_
 refine wk3 2 3 58 rfl (Tr.cond rfl (fun h => nomatch h) (fun _ => ?_))
 refine Tr.skip (Fin.block (Fin.fam_same () (by omega) (kk2 rfl)))
 refine Tr.skip (Fin.block (Fin.fam_same () (by omega) (kk2 rfl)))
 refine wk2 2 3 rfl (Tr.cutk [2, 3] [] (¬ ((lstR e c.kind).2.2 = true ∧ decide (0 ≤ idx (fun y => c.number == y) (lstR e c.kind).1) = (lstR e c.kind).2.1)) ?_ (fun hlst => ?_))
 refine ac ?_
 refine co rfl (kc2 (w_R24listed) rfl rfl rfl) ?_
 refine ac ?_
 refine ac ?_
 refine Ch.cs 68 rfl ?_ ?_ <;> intro h17 q17
 refine ac ?_
 refine cy h17 rfl (kc2 (w_R24place) rfl rfl rfl) ?_
 refine ac ?_
 refine wk3 2 3 76 rfl ?_
 refine Tr.cn rfl ?_ ?_ <;> intro h18 q18
 refine ac ?_
 refine ac ?_
 · refine int_eq ?_; unfold alw; repeat (first | (refine Eq.trans ?_ (if_neg ?_).symm; rotate_left; focus (omega)) | (refine Eq.trans ?_ (if_neg ?_).symm; rotate_left; focus (simp_all; done)) | (refine (if_pos ?_).symm; simp_all; done))
 refine Tr.skip (Fin.fam_same () (by simp_all) (kk2 rfl))
 refine ac ?_
 refine wk3 2 3 76 rfl (Tr.cond rfl (fun h => nomatch h) (fun _ => ?_))
 refine Tr.skip (Fin.fam_same () (by simp_all) (kk2 rfl))
 refine wk2 2 3 rfl (Tr.cutk [2, 3] [] (¬ ((valR e c.kind).2 = true ∧ (valR e c.kind).1 = c.number)) ?_ (fun hval => ?_))
 refine ac ?_
 refine co rfl (kc2 (w_R24value) rfl rfl rfl) ?_
 refine ac ?_
 refine ac ?_
 refine Ch.cs 85 rfl ?_ ?_ <;> intro h20 q20
 refine ac ?_
 refine wk3 2 3 90 rfl ?_
 refine Tr.cn rfl ?_ ?_ <;> intro h21 q21
 refine ac ?_
 refine ac ?_
 · refine int_eq ?_; unfold alw; repeat (first | (refine Eq.trans ?_ (if_neg ?_).symm; rotate_left; focus (omega)) | (refine Eq.trans ?_ (if_neg ?_).symm; rotate_left; focus (simp_all; done)) | (refine (if_pos ?_).symm; simp_all; done))
 refine Tr.skip (Fin.fam_same () (by simp_all) (kk2 rfl))
 refine ac ?_
 refine wk3 2 3 90 rfl (Tr.cond rfl (fun h => nomatch h) (fun _ => ?_))
 refine Tr.skip (Fin.fam_same () (by simp_all) (kk2 rfl))
 refine wk2 2 3 rfl (Tr.cutk [2, 3] [] (¬ (c.kind = 5 ∧ 0 < cntK c.idn.keyId e.ids)) ?_ (fun hadd => ?_))
 refine ac ?_
 refine Tr.cn rfl ?_ ?_ <;> intro h23 q23
 refine ac ?_
 refine co rfl (kc2 (w_R24keys hsm.idl) rfl rfl rfl) ?_
 refine ac ?_
 refine wk3 2 3 10 rfl ?_
 refine ac ?_
 refine Tr.cn rfl ?_ ?_ <;> intro h24 q24
 refine ac ?_
 refine ac ?_
 · refine int_eq ?_; unfold alw; repeat (first | (refine Eq.trans ?_ (if_neg ?_).symm; rotate_left; focus (omega)) | (refine (if_pos ?_).symm; omega) | (refine Eq.trans ?_ (if_neg ?_).symm; rotate_left; focus (simp_all; done)))
 refine Tr.skip (Fin.fam_same () (by omega) (kk2 rfl))
 refine Tr.skip (Fin.fam_same () (by omega) (kk2 rfl))
 refine ac ?_
 refine Tr.cn rfl ?_ ?_ <;> intro h25 q25
 refine ac ?_
 refine co rfl (kc2 (w_R24keys hsm.idl) rfl rfl rfl) ?_
 refine ac ?_
 refine wk1 12 rfl ?_
 refine ac ?_
 refine Tr.cn rfl ?_ ?_ <;> intro h26 q26
 refine ac ?_
 refine ac ?_
 · refine int_eq ?_; unfold alw; repeat (first | (refine Eq.trans ?_ (if_neg ?_).symm; rotate_left; focus (omega)) | (refine (if_pos ?_).symm; omega) | (refine Eq.trans ?_ (if_neg ?_).symm; rotate_left; focus (simp_all; done)))
 refine ac ?_
 refine ac ?_
 refine Tr.cn rfl ?_ ?_ <;> intro h27 q27
 refine ac ?_
 refine ac ?_
 · refine int_eq ?_; unfold alw; repeat (first | (refine Eq.trans ?_ (if_neg ?_).symm; rotate_left; focus (omega)) | (refine (if_pos ?_).symm; omega) | (refine Eq.trans ?_ (if_neg ?_).symm; rotate_left; focus (simp_all; done)))
 refine ac ?_
 refine ac ?_
 refine ac ?_
 · refine int_eq ?_; unfold alw; repeat (first | rfl | (refine Eq.trans ?_ (if_neg ?_).symm; rotate_left; focus (omega)) | (refine Eq.trans ?_ (if_neg ?_).symm; rotate_left; focus (simp_all; done)))
 refine ac ?_
 refine ac ?_
 refine ac ?_
 · refine int_eq ?_; unfold alw; repeat (first | rfl | (refine Eq.trans ?_ (if_neg ?_).symm; rotate_left; focus (omega)) | (refine Eq.trans ?_ (if_neg ?_).symm; rotate_left; focus (simp_all; done)))
end Go.Proofs.YtppeeogffbpcbaaGreat
namespace Go.Proofs.YtppeeogffbpcbaaGreat
open Go Go.RowKit Cp
theorem ok_1 {e e2 : Ept} {c b : Chg} (h : c.kind = 1) (hs : stepR e c = .ok (e2, b)) : (0 ≤ c.at_ ∧ c.at_ ≤ (e.suites.length : Nat)) ∧ e2 = { e with suites := e.suites.take c.at_.toNat ++ [c.number] ++ e.suites.drop c.at_.toNat } ∧ b = ⟨c.endpoint, 2, c.number, 0, zeroId⟩ := by
  rw [stepR_1 h] at hs
  (repeat' (split at hs)) <;> first | (cases hs; done) | (injection hs with hs; injection hs with h1 h2; exact ⟨by omega, h1.symm, h2.symm⟩)
theorem ok_2 {e e2 : Ept} {c b : Chg} (h : c.kind = 2) (hs : stepR e c = .ok (e2, b)) : (0 ≤ sIdx e c) ∧ e2 = { e with suites := e.suites.eraseIdx (sIdx e c).toNat } ∧ b = ⟨c.endpoint, 1, c.number, sIdx e c, zeroId⟩ := by
  rw [stepR_2 h] at hs
  (repeat' (split at hs)) <;> first | (cases hs; done) | (injection hs with hs; injection hs with h1 h2; exact ⟨by omega, h1.symm, h2.symm⟩)
theorem ok_3 {e e2 : Ept} {c b : Chg} (h : c.kind = 3) (hs : stepR e c = .ok (e2, b)) : e2 = { e with most := c.number } ∧ b = ⟨c.endpoint, c.kind, e.most, 0, zeroId⟩ := by
  rw [stepR_3 h] at hs
  (repeat' (split at hs)) <;> first | (cases hs; done) | (injection hs with hs; injection hs with h1 h2; exact ⟨h1.symm, h2.symm⟩)
theorem ok_4 {e e2 : Ept} {c b : Chg} (h : c.kind = 4) (hs : stepR e c = .ok (e2, b)) : e2 = { e with least := c.number } ∧ b = ⟨c.endpoint, c.kind, e.least, 0, zeroId⟩ := by
  rw [stepR_4 h] at hs
  (repeat' (split at hs)) <;> first | (cases hs; done) | (injection hs with hs; injection hs with h1 h2; exact ⟨h1.symm, h2.symm⟩)
theorem ok_5 {e e2 : Ept} {c b : Chg} (h : c.kind = 5) (hs : stepR e c = .ok (e2, b)) : (0 ≤ c.at_ ∧ c.at_ ≤ (e.ids.length : Nat)) ∧ e2 = { e with ids := e.ids.take c.at_.toNat ++ [c.idn] ++ e.ids.drop c.at_.toNat } ∧ b = ⟨c.endpoint, 6, c.idn.keyId, 0, zeroId⟩ := by
  rw [stepR_5 h] at hs
  (repeat' (split at hs)) <;> first | (cases hs; done) | (injection hs with hs; injection hs with h1 h2; exact ⟨by omega, h1.symm, h2.symm⟩)
theorem ok_6 {e e2 : Ept} {c b : Chg} (h : c.kind = 6) (hs : stepR e c = .ok (e2, b)) : ∃ x, e.ids[(keyIdx c.number e.ids).toNat]? = some x ∧ 0 ≤ keyIdx c.number e.ids ∧ e2 = { e with ids := e.ids.eraseIdx (keyIdx c.number e.ids).toNat } ∧ b = ⟨c.endpoint, 5, 0, keyIdx c.number e.ids, x⟩ := by
  rw [stepR_6 h] at hs
  (repeat' (split at hs)) <;> first | (cases hs; done) | (injection hs with hs; injection hs with h1 h2; exact ⟨_, by assumption, by omega, h1.symm, h2.symm⟩)
theorem ok_7 {e e2 : Ept} {c b : Chg} (h : c.kind = 7) (hs : stepR e c = .ok (e2, b)) : hasX e.anchors c.number = false ∧ e2 = { e with anchors := insX e.anchors c.number } ∧ b = ⟨c.endpoint, 8, c.number, 0, zeroId⟩ := by
  rw [stepR_7 h] at hs
  (repeat' (split at hs)) <;> first | (cases hs; done) | (injection hs with hs; injection hs with h1 h2; exact ⟨by simp_all, h1.symm, h2.symm⟩)
theorem ok_8 {e e2 : Ept} {c b : Chg} (h : c.kind = 8) (hs : stepR e c = .ok (e2, b)) : hasX e.anchors c.number = true ∧ e2 = { e with anchors := e.anchors.eraseIdx (posI e.anchors c.number) } ∧ b = ⟨c.endpoint, 7, c.number, 0, zeroId⟩ := by
  rw [stepR_8 h] at hs
  (repeat' (split at hs)) <;> first | (cases hs; done) | (injection hs with hs; injection hs with h1 h2; exact ⟨by simp_all, h1.symm, h2.symm⟩)
theorem ok_9 {e e2 : Ept} {c b : Chg} (h : c.kind = 9) (hs : stepR e c = .ok (e2, b)) : hasX e.hashes c.number = false ∧ e2 = { e with hashes := insX e.hashes c.number } ∧ b = ⟨c.endpoint, 10, c.number, 0, zeroId⟩ := by
  rw [stepR_9 h] at hs
  (repeat' (split at hs)) <;> first | (cases hs; done) | (injection hs with hs; injection hs with h1 h2; exact ⟨by simp_all, h1.symm, h2.symm⟩)
theorem ok_10 {e e2 : Ept} {c b : Chg} (h : c.kind = 10) (hs : stepR e c = .ok (e2, b)) : hasX e.hashes c.number = true ∧ e2 = { e with hashes := e.hashes.eraseIdx (posI e.hashes c.number) } ∧ b = ⟨c.endpoint, 9, c.number, 0, zeroId⟩ := by
  rw [stepR_10 h] at hs
  (repeat' (split at hs)) <;> first | (cases hs; done) | (injection hs with hs; injection hs with h1 h2; exact ⟨by simp_all, h1.symm, h2.symm⟩)
theorem ok_11 {e e2 : Ept} {c b : Chg} (h : c.kind = 11) (hs : stepR e c = .ok (e2, b)) : e2 = { e with fall := (c.number == 1) } ∧ b = ⟨c.endpoint, c.kind, bitI e.fall, 0, zeroId⟩ := by
  rw [stepR_11 h] at hs
  (repeat' (split at hs)) <;> first | (cases hs; done) | (injection hs with hs; injection hs with h1 h2; exact ⟨h1.symm, h2.symm⟩)
theorem ok_12 {e e2 : Ept} {c b : Chg} (h : c.kind = 12) (hs : stepR e c = .ok (e2, b)) : e2 = { e with own := (c.number == 1) } ∧ b = ⟨c.endpoint, c.kind, bitI e.own, 0, zeroId⟩ := by
  rw [stepR_12 h] at hs
  (repeat' (split at hs)) <;> first | (cases hs; done) | (injection hs with hs; injection hs with h1 h2; exact ⟨h1.symm, h2.symm⟩)

theorem sIdx_lt {e : Ept} {c : Chg} (h : 0 ≤ sIdx e c) : (sIdx e c).toNat < e.suites.length := by obtain ⟨_, _, _, h3⟩ := idx_hit (p := fun y => c.number == y) (l := e.suites) h; exact h3
theorem w_R24made {e e2 : Ept} {c b : Chg} (hsm : e.small) (hcs : c.idn.small) (hce : eptB e = true) (hc : okCh c) (hs : stepR e c = .ok (e2, b)) : Fun Tryz.prog 76 [agg (rowEp e), agg (rowChg c)] (agg (rowEp e2)) := by
 refine fo Tryz.func76 rfl ⟨rfl, rfl⟩ fun M0 w0 => ?_
 have hk := hc.1
 have ok := eptB_iff.1 hce
 have hs1 := hsm.suites
 have hs2 := hsm.anchors
 have hs3 := hsm.hashes
 have hs4 := hsm.idl
 refine Tr.seq (Tr.regT (tp rfl (ok_box rfl (VL.le (vl rfl) (agg_cellsP _))) (tp rfl (ok_box rfl (VL.le (vl rfl) (agg_cellsP _))) ?_)))
 refine TO.alloc rfl rfl (by decide) rfl z32 zo32 (fun b1 => ?_)
 refine ap ?_
 refine ap ?_
 refine tp rfl (kc1 (w_R24Copy hsm) rfl rfl) ?_
 refine TO.alloc rfl rfl (by decide) rfl z32 zo32 (fun b2 => ?_)
 refine ap ?_
 refine ac ?_
 refine ac ?_
 refine Tr.cn rfl ?_ ?_ <;> intro h1 q1
 obtain ⟨hr, rfl, rfl⟩ := ok_1 q1 hs
 refine ap ?_
 refine tp rfl (ok_call rfl (w_R24with (l := e.suites) (i := c.at_.toNat) (by omega) hs1) ⟨ke rfl, ⟨_, rfl, int_eq (by omega)⟩, ke rfl, trivial⟩) ?_
 refine ap ?_
 refine wk2 4 5 rfl ?_
 refine ap ?_
 refine Tr.drop 0 (Tr.ret (Fin.retX1 rfl (RVal.cell 0 rfl rfl agg32 sz32 rfl (Pr.le_refl _)) ?_))
 · exact Pr.le_refl _
 refine ac ?_
 refine wk6 2 3 4 5 13 24 rfl ?_
 refine Tr.cn rfl ?_ ?_ <;> intro h2 q2
 obtain ⟨hr, rfl, rfl⟩ := ok_2 q2 hs
 refine Tr.rx ?_
 refine ay ?_
 refine xo rfl (fun _ => kc2 (w_R24place) rfl rfl rfl) ?_
 refine xo rfl (fun _ => ok_call rfl (w_R24without (l := e.suites) (i := (sIdx e c).toNat) (sIdx_lt hr) hs1) ⟨ke rfl, ⟨_, rfl, int_eq (show sIdx e c = _ by omega)⟩, trivial⟩) ?_
 refine ay ?_
 refine Cx.nil ⟨by kernel_rfl, ?_⟩
 refine FinX.done al2 ?_
 refine ac ?_
 refine wk2 4 5 rfl ?_
 refine ap ?_
 refine Tr.drop 0 (Tr.ret (Fin.retX1 rfl (RVal.cell 0 rfl rfl agg32 sz32 rfl (Pr.le_refl _)) ?_))
 · exact Pr.le_refl _
 refine ac ?_
 refine Tr.cn rfl ?_ ?_ <;> intro h3 q3
 obtain ⟨rfl, rfl⟩ := ok_3 q3 hs
 refine ap ?_
 refine ap ?_
 refine Tr.drop 0 (Tr.ret (Fin.retX1 rfl (RVal.cell 0 rfl rfl agg32 sz32 rfl (Pr.le_refl _)) ?_))
 · exact Pr.le_refl _
 refine ac ?_
 refine Tr.cn rfl ?_ ?_ <;> intro h4 q4
 obtain ⟨rfl, rfl⟩ := ok_4 q4 hs
 refine ap ?_
 refine ap ?_
 refine Tr.drop 0 (wk1 4 rfl (Tr.ret (Fin.retX1 rfl (RVal.cell 0 rfl rfl agg32 sz32 rfl (Pr.le_refl _)) ?_)))
 · exact Pr.le_refl _
 refine ac ?_
 refine Tr.cn rfl ?_ ?_ <;> intro h5 q5
 obtain ⟨hr, rfl, rfl⟩ := ok_5 q5 hs
 refine ap ?_
 refine tp rfl (ok_sliceTo rfl Tryz.underlying30 sz27 (vl rfl) (vl rfl) (by omega) (by simp; omega)) ?_
 refine TO.pad ?_
 refine TO.efs 0 rfl rfl (by decide) (ef_append rfl rfl (by decide) rfl Tryz.underlying30 sz27 by27 z27 rfl (by decide) ⟨_, rfl, nil_slice _⟩ (vl rfl) (by simp only [List.length_map, List.length_append, List.length_cons, List.length_nil, List.length_take, List.length_drop]; unfold maxLen; omega) (by simp only [List.length_map, List.length_append, List.length_cons, List.length_nil, List.length_take, List.length_drop]; omega) (appR_full (by exact List.Mem.head _) ⟨_, rfl, nil_full 1⟩)) (fun v1 => ?_)
 refine ap ?_
 refine wk4 3 4 5 6 rfl ?_
 refine ap ?_
 refine tp rfl (kc1 (w_R24CopyI hcs) rfl rfl) (tp rfl (ok_buildSlice (xs := [.tmp 56]) (rows := [_]) rfl rfl Tryz.underlying30 sz27 z27 rfl (by decide) ⟨⟨(by exact rfl), (VL.le (vl rfl) (agg_cellsP _))⟩, trivial⟩ (by decide)) ?_)
 refine TO.efs 0 rfl rfl (by decide) (ef_append rfl rfl (by decide) rfl Tryz.underlying30 sz27 by27 z27 rfl (by decide) ⟨_, rfl, andIs_le _ _⟩ ⟨_, rfl, full_le _ _⟩ (by simp only [List.length_map, List.length_append, List.length_cons, List.length_nil, List.length_take, List.length_drop]; unfold maxLen; omega) (by simp only [List.length_map, List.length_append, List.length_cons, List.length_nil, List.length_take, List.length_drop]; omega) (appR_is (by exact List.Mem.head _) ⟨_, rfl, andIs_is _ _⟩)) (fun v2 => ?_)
 refine ap ?_
 refine ap ?_
 refine tp rfl (ok_sliceFrom rfl Tryz.underlying30 sz27 (vl rfl) (vl rfl) (by omega) (by simp; omega)) ?_
 refine TO.efs 0 rfl rfl (by decide) (ef_append rfl rfl (by decide) rfl Tryz.underlying30 sz27 by27 z27 rfl (by decide) ⟨_, rfl, andIs_le _ _⟩ (vl rfl) (by simp only [List.length_map, List.length_append, List.length_cons, List.length_nil, List.length_take, List.length_drop]; unfold maxLen; omega) (by simp only [List.length_map, List.length_append, List.length_cons, List.length_nil, List.length_take, List.length_drop]; omega) (appR_is (by exact List.Mem.head _) ⟨_, rfl, andIs_is _ _⟩)) (fun v3 => ?_)
 refine ap ?_
 refine wk2 4 5 rfl ?_
 refine ap ?_
 refine Tr.drop 1 (Tr.ret (Fin.retX1 rfl (RVal.cell 1 rfl rfl agg32 sz32 rfl (Pr.le_refl _)) ?_))
 · exact agg_le ⟨Pr.le_refl _, Pr.le_refl _, Pr.le_refl _, Pr.le_refl _, Pr.le_refl _, Pr.le_trans (andIs_le _ _) (Pr.le_of_eq (by show _ = slice 4 ((e.ids.take c.at_.toNat ++ [c.idn] ++ e.ids.drop c.at_.toNat).map rowId); simp [List.map_take, List.map_drop])), Pr.le_refl _, Pr.le_refl _, Pr.le_refl _, trivial⟩
 refine ac ?_
 refine wk6 2 3 4 5 13 67 rfl ?_
 refine Tr.cn rfl ?_ ?_ <;> intro h6 q6
 obtain ⟨x_, hx_, hr, rfl, rfl⟩ := ok_6 q6 hs
 have hlt := lt_of_at hx_
 refine ac ?_
 refine co rfl (kc2 (w_R24keys hs4) rfl rfl rfl) ?_
 refine ac ?_
 refine wk3 4 5 8 rfl ?_
 refine ap ?_
 refine tp rfl (ok_sliceTo rfl Tryz.underlying30 sz27 (vl rfl) (vl rfl) (by omega) (by simp; omega)) ?_
 refine TO.pad ?_
 refine TO.efs 0 rfl rfl (by decide) (ef_append rfl rfl (by decide) rfl Tryz.underlying30 sz27 by27 z27 rfl (by decide) ⟨_, rfl, nil_slice _⟩ (vl rfl) (by simp only [List.length_map, List.length_append, List.length_cons, List.length_nil, List.length_take, List.length_drop]; unfold maxLen; omega) (by simp only [List.length_map, List.length_append, List.length_cons, List.length_nil, List.length_take, List.length_drop]; omega) (appR_full (by exact List.Mem.head _) ⟨_, rfl, nil_full 1⟩)) (fun v4 => ?_)
 refine ap ?_
 refine ap ?_
 refine tp rfl (ok_sliceFrom rfl Tryz.underlying30 sz27 (vl rfl) (vl rfl) (by omega) (by simp; omega)) ?_
 refine TO.efs 0 rfl rfl (by decide) (ef_append rfl rfl (by decide) rfl Tryz.underlying30 sz27 by27 z27 rfl (by decide) ⟨_, rfl, andIs_le _ _⟩ (vl rfl) (by simp only [List.length_map, List.length_append, List.length_cons, List.length_nil, List.length_take, List.length_drop]; unfold maxLen; omega) (by simp only [List.length_map, List.length_append, List.length_cons, List.length_nil, List.length_take, List.length_drop]; omega) (appR_is (by exact List.Mem.head _) ⟨_, rfl, andIs_is _ _⟩)) (fun v5 => ?_)
 refine ap ?_
 refine wk2 4 5 rfl ?_
 refine ap ?_
 refine Tr.drop 1 (Tr.ret (Fin.retX1 rfl (RVal.cell 1 rfl rfl agg32 sz32 rfl (Pr.le_refl _)) ?_))
 · exact agg_le ⟨Pr.le_refl _, Pr.le_refl _, Pr.le_refl _, Pr.le_refl _, Pr.le_refl _, Pr.le_trans (andIs_le _ _) (Pr.le_of_eq (by show _ = slice 4 ((e.ids.eraseIdx (keyIdx c.number e.ids).toNat).map rowId); rw [List.eraseIdx_eq_take_drop_succ, show (keyIdx c.number e.ids + 1).toNat = (keyIdx c.number e.ids).toNat + 1 by omega]; simp [List.map_take, List.map_drop])), Pr.le_refl _, Pr.le_refl _, Pr.le_refl _, trivial⟩
 refine ac ?_
 refine Tr.cn rfl ?_ ?_ <;> intro h7 q7
 obtain ⟨hr, rfl, rfl⟩ := ok_7 q7 hs
 refine ap ?_
 refine tp rfl (kc2 (w_R24sorted hs2) rfl rfl rfl) ?_
 refine ap ?_
 refine wk2 4 5 rfl ?_
 refine ap ?_
 refine Tr.drop 0 (Tr.ret (Fin.retX1 rfl (RVal.cell 0 rfl rfl agg32 sz32 rfl (Pr.le_refl _)) ?_))
 · exact Pr.le_refl _
 refine ac ?_
 refine Tr.cn rfl ?_ ?_ <;> intro h8 q8
 obtain ⟨hr, rfl, rfl⟩ := ok_8 q8 hs
 refine Tr.rx ?_
 refine ay ?_
 refine xo rfl (fun _ => kc2 (w_R24place) rfl rfl rfl) ?_
 refine xo rfl (fun _ => ok_call rfl (w_R24without (l := e.anchors) (i := posI e.anchors c.number) (hasX_lt hr) hs2) ⟨ke rfl, ⟨_, rfl, int_eq (by rw [idx_has (ascI_of ok.anc), if_pos hr])⟩, trivial⟩) ?_
 refine ay ?_
 refine Cx.nil ⟨by kernel_rfl, ?_⟩
 refine FinX.done al2 ?_
 refine ac ?_
 refine wk2 4 5 rfl ?_
 refine ap ?_
 refine Tr.drop 0 (Tr.ret (Fin.retX1 rfl (RVal.cell 0 rfl rfl agg32 sz32 rfl (Pr.le_refl _)) ?_))
 · exact Pr.le_refl _
 refine ac ?_
 refine Tr.cn rfl ?_ ?_ <;> intro h9 q9
 obtain ⟨hr, rfl, rfl⟩ := ok_9 q9 hs
 refine ap ?_
 refine tp rfl (kc2 (w_R24sorted hs3) rfl rfl rfl) ?_
 refine ap ?_
 refine wk2 4 5 rfl ?_
 refine ap ?_
 refine Tr.drop 0 (Tr.ret (Fin.retX1 rfl (RVal.cell 0 rfl rfl agg32 sz32 rfl (Pr.le_refl _)) ?_))
 · exact Pr.le_refl _
 refine ac ?_
 refine wk6 2 3 4 5 13 116 rfl ?_
 refine Tr.cn rfl ?_ ?_ <;> intro h10 q10
 obtain ⟨hr, rfl, rfl⟩ := ok_10 q10 hs
 refine Tr.rx ?_
 refine ay ?_
 refine xo rfl (fun _ => kc2 (w_R24place) rfl rfl rfl) ?_
 refine xo rfl (fun _ => ok_call rfl (w_R24without (l := e.hashes) (i := posI e.hashes c.number) (hasX_lt hr) hs3) ⟨ke rfl, ⟨_, rfl, int_eq (by rw [idx_has (ascI_of ok.hash), if_pos hr])⟩, trivial⟩) ?_
 refine ay ?_
 refine Cx.nil ⟨by kernel_rfl, ?_⟩
 refine FinX.done al2 ?_
 refine ac ?_
 refine wk2 4 5 rfl ?_
 refine ap ?_
 refine Tr.drop 0 (Tr.ret (Fin.retX1 rfl (RVal.cell 0 rfl rfl agg32 sz32 rfl (Pr.le_refl _)) ?_))
 · exact Pr.le_refl _
 refine ac ?_
 refine Tr.cn rfl ?_ ?_ <;> intro h11 q11
 obtain ⟨rfl, rfl⟩ := ok_11 q11 hs
 refine ap ?_
 refine ap ?_
 refine Tr.drop 0 (Tr.ret (Fin.retX1 rfl (RVal.cell 0 rfl rfl agg32 sz32 rfl (Pr.le_refl _)) ?_))
 · exact Pr.le_refl _
 refine ac ?_
 refine Tr.cn rfl ?_ ?_ <;> intro h12 q12
 obtain ⟨rfl, rfl⟩ := ok_12 q12 hs
 refine ap ?_
 refine wk2 4 5 rfl ?_
 refine ap ?_
 refine Tr.drop 0 (Tr.ret (Fin.retX1 rfl (RVal.cell 0 rfl rfl agg32 sz32 rfl (Pr.le_refl _)) ?_))
 · exact Pr.le_refl _
 exfalso; omega
theorem w_R24Apply {e : Ept} {c : Chg} {n : Nat} (hz : e.sz n) (hn : n ≤ 900000) (hi : c.idn.fits ∧ c.idn.small) : Fun Tryz.prog 19 [agg (rowEp e), agg (rowChg c)] (tup [agg (rowEp (doneR e c).1), int (doneR e c).2.2]) := by
 refine fo Tryz.func19 rfl ⟨rfl, rfl⟩ fun M0 w0 => ?_
 have hsm := hz.small (by omega)
 have hcs := hi.2
 refine Tr.seq (Tr.regT (tp rfl (ok_box rfl (VL.le (vl rfl) (agg_cellsP _))) (tp rfl (ok_box rfl (VL.le (vl rfl) (agg_cellsP _))) ?_)))
 refine TO.alloc rfl rfl (by decide) rfl z32 zo32 (fun b1 => ?_)
 refine ao ?_
 refine ac ?_
 refine co rfl (kc2 (w_R24allowed hsm hcs) rfl rfl rfl) ?_
 refine ac ?_
 refine ac ?_
 refine Tr.cn rfl ?_ ?_ <;> intro h1 q1
 have hb := alw_bad q1
 refine ao ?_
 refine TO.store_all 0 rfl rfl rfl (vl rfl) (VL.le (vl rfl) (agg_cellsP _)) rfl sz32 rfl rfl ?_
 refine ao ?_
 refine wk2 4 5 rfl (Tr.ret (Fin.then_ret (Fin.retX2 rfl (RVal.cell 0 rfl rfl agg32 sz32 rfl (Pr.le_refl _)) (RVal.tmp rfl (Pr.le_refl _)) ?_)))
 refine tup_le ⟨?_, ?_, trivial⟩
 · rw [hb]; exact agg_le ⟨Pr.le_refl _, Pr.le_refl _, Pr.le_refl _, nil_slice 1, Pr.le_refl _, nil_slice 4, nil_slice 1, nil_slice 1, Pr.le_refl _, trivial⟩
 · exact int_eq (by rw [hb])
 obtain ⟨hce, hc, e2, b, hs⟩ := alw_ok (e := e) (c := c) (by have := q1; omega)
 have hsm2 := (sz_step hc hs hz hi).1.small (by omega)
 refine ac ?_
 refine ao ?_
 refine tp rfl (kc2 (w_R24made hsm hcs hce hc hs) rfl rfl rfl) ?_
 refine TO.alloc rfl rfl (by decide) rfl z32 zo32 (fun b2 => ?_)
 refine sf 0 7 ⟨rfl, rfl, rfl⟩ rfl rfl rfl rfl ?_
 refine ao ?_
 refine wk2 4 7 rfl ?_
 refine ac ?_
 refine co rfl (kc1 (w_R9Check hsm2) rfl rfl) ?_
 refine ac ?_
 refine Tr.cn rfl ?_ ?_ <;> intro h2 q2
 have hb := doneR_v hce hc hs (by have := q2; cases h_ : eptB e2 <;> simp_all)
 refine ao ?_
 refine TO.store_all 0 rfl rfl rfl (vl rfl) (VL.le (vl rfl) (agg_cellsP _)) rfl sz32 rfl rfl ?_
 refine ao ?_
 refine Tr.ret (Fin.then_ret (Fin.retX2 rfl (RVal.cell 0 rfl rfl agg32 sz32 rfl (Pr.le_refl _)) (RVal.tmp rfl (Pr.le_refl _)) ?_))
 refine tup_le ⟨?_, ?_, trivial⟩
 · rw [hb]; exact agg_le ⟨Pr.le_refl _, Pr.le_refl _, Pr.le_refl _, nil_slice 1, Pr.le_refl _, nil_slice 4, nil_slice 1, nil_slice 1, Pr.le_refl _, trivial⟩
 · exact int_eq (by rw [hb])
 have hb := doneR_ok hce hc hs (by have := q2; cases h_ : eptB e2 <;> simp_all)
 refine ac ?_
 refine ao ?_
 refine TO.store_all 0 rfl rfl rfl (vl rfl) (VL.le (vl rfl) (agg_cellsP _)) rfl sz32 rfl rfl ?_
 refine ao ?_
 refine Tr.ret (Fin.retX2 rfl (RVal.cell 0 rfl rfl agg32 sz32 rfl (Pr.le_refl _)) (RVal.tmp rfl (Pr.le_refl _)) ?_)
 refine tup_le ⟨?_, ?_, trivial⟩
 · rw [hb]; exact Pr.le_refl _
 · exact int_eq (by rw [hb])
theorem w_R24Check {e : Ept} {c : Chg} {n : Nat} (hz : e.sz n) (hn : n ≤ 900000) (hi : c.idn.fits ∧ c.idn.small) : Fun Tryz.prog 46 [agg (rowEp e), agg (rowChg c)] (int (doneR e c).2.2) := by
 refine fo Tryz.func46 rfl ⟨rfl, rfl⟩ fun M0 w0 => ?_
 refine ac ?_
 refine ao ?_
 refine tp rfl (kc2 (w_R24Apply hz hn hi) rfl rfl rfl) ?_
 refine ao ?_
 refine TO.alloc rfl rfl (by decide) rfl z32 zo32 (fun b1 => ?_)
 refine sf 0 5 ⟨rfl, rfl, rfl⟩ rfl rfl rfl rfl ?_
 refine ao ?_
 refine ac ?_
 refine wk1 4 rfl ?_
 refine ac ?_
 · exact Pr.le_refl _
end Go.Proofs.YtppeeogffbpcbaaGreat
namespace Go.Proofs.YtppeeogffbpcbaaGreat
open Go Go.RowKit Cp
theorem w_SEqI {a b : List (Int)}  : Fun Tryz.prog 138 [ints a, ints b] (bool (decide (a = b))) := by
 refine fo Tryz.func138 rfl ⟨rfl, rfl⟩ fun M0 w0 => (Tr.lenm 0 rfl fun hlm_0 => (Tr.lenm 1 rfl fun hlm_1 => ?_))
 refine ac ?_
 refine ac ?_
 refine Tr.cn rfl ?_ ?_ <;> intro h1 q1
 have hne : ¬ a.length = b.length := by simp_all; omega
 refine ac ?_
 refine ac ?_
 · refine bool_eq ?_; symm; rw [decide_eq_false_iff_not]; rintro rfl; exact hne rfl
 have hll : a.length = b.length := by simp_all; omega
 refine ac ?_
 refine ac ?_
 refine Tr.block (Tr.loopw [(0, _), (1, _), (12, _)] (kk3 rfl) (fun k : Nat => [(13, int ((k : Nat) : Int))]) (fun k : Nat => k ≤ (a).length ∧ (a.take k = b.take k)) (fun k : Nat => (a).length - k) 0 (⟨Nat.zero_le _, rfl⟩) ⟨ke rfl, trivial⟩ ?_)
 rintro k ⟨hle_k, hinv_k⟩
 refine ac ?_
 refine Tr.seq ?_
 refine Tr.cn rfl ?_ ?_ <;> intro h2 q2
 have hk_k : k < (a).length := lt_of_dec h2
 obtain ⟨x, hx_k⟩ := at_ hk_k
 obtain ⟨y, hy⟩ := at_ (l := b) (k := k) (by omega)
 refine ac ?_
 refine ac ?_
 refine ac ?_
 refine co rfl (ok_indexAddr rfl Tryz.underlying22 sz3 (vl rfl) (vl rfl) (by omega) (row_at hx_k)) ?_
 refine ac ?_
 refine co rfl (ok_indexAddr rfl Tryz.underlying22 sz3 (vl rfl) (vl rfl) (by omega) (row_at hy)) ?_
 refine ac ?_
 refine wk5 0 1 12 13 24 rfl ?_
 refine Tr.cn rfl ?_ ?_ <;> intro h3 q3
 refine ac ?_
 refine ac ?_
 · refine bool_eq ?_; symm; rw [decide_eq_false_iff_not]; refine sameN hx_k hy ?_; rintro rfl; simp_all
 refine ac ?_
 refine ac ?_
 exact Fin.fam_same (k + 1) ⟨⟨hk_k, sameY hx_k hy hinv_k (by simp_all)⟩, by omega⟩ ⟨⟨_, rfl, int_succ k⟩, ke rfl, ke rfl, ke rfl, trivial⟩
 have he_k : k = (a).length := by have := ge_of_dec h2; omega
 subst he_k
 refine ac ?_
 refine ac ?_
 refine ac ?_
 · refine bool_eq ?_; symm; rw [decide_eq_true_eq]; exact sameA hll hinv_k
theorem w_SEqT {a b : List (List UInt8)}  : Fun Tryz.prog 131 [txts a, txts b] (bool (decide (a = b))) := by
 refine fo Tryz.func131 rfl ⟨rfl, rfl⟩ fun M0 w0 => (Tr.lenm 0 rfl fun hlm_0 => (Tr.lenm 1 rfl fun hlm_1 => ?_))
 refine ac ?_
 refine ac ?_
 refine Tr.cn rfl ?_ ?_ <;> intro h1 q1
 have hne : ¬ a.length = b.length := by simp_all; omega
 refine ac ?_
 refine ac ?_
 · refine bool_eq ?_; symm; rw [decide_eq_false_iff_not]; rintro rfl; exact hne rfl
 have hll : a.length = b.length := by simp_all; omega
 refine ac ?_
 refine ac ?_
 refine Tr.block (Tr.loopw [(0, _), (1, _), (12, _)] (kk3 rfl) (fun k : Nat => [(13, int ((k : Nat) : Int))]) (fun k : Nat => k ≤ (a).length ∧ (a.take k = b.take k)) (fun k : Nat => (a).length - k) 0 (⟨Nat.zero_le _, rfl⟩) ⟨ke rfl, trivial⟩ ?_)
 rintro k ⟨hle_k, hinv_k⟩
 refine ac ?_
 refine Tr.seq ?_
 refine Tr.cn rfl ?_ ?_ <;> intro h2 q2
 have hk_k : k < (a).length := lt_of_dec h2
 obtain ⟨x, hx_k⟩ := at_ hk_k
 obtain ⟨y, hy⟩ := at_ (l := b) (k := k) (by omega)
 refine ac ?_
 refine ac ?_
 refine ac ?_
 refine co rfl (ok_indexAddr rfl Tryz.underlying74 sz9 (vl rfl) (vl rfl) (by omega) (row_at hx_k)) ?_
 refine ac ?_
 refine co rfl (ok_indexAddr rfl Tryz.underlying74 sz9 (vl rfl) (vl rfl) (by omega) (row_at hy)) ?_
 refine ac ?_
 refine wk5 0 1 12 13 24 rfl ?_
 refine Tr.cn rfl ?_ ?_ <;> intro h3 q3
 refine ac ?_
 refine ac ?_
 · refine bool_eq ?_; symm; rw [decide_eq_false_iff_not]; refine sameN hx_k hy ?_; rintro rfl; simp_all
 refine ac ?_
 refine ac ?_
 exact Fin.fam_same (k + 1) ⟨⟨hk_k, sameY hx_k hy hinv_k (by simp_all)⟩, by omega⟩ ⟨⟨_, rfl, int_succ k⟩, ke rfl, ke rfl, ke rfl, trivial⟩
 have he_k : k = (a).length := by have := ge_of_dec h2; omega
 subst he_k
 refine ac ?_
 refine ac ?_
 refine ac ?_
 · refine bool_eq ?_; symm; rw [decide_eq_true_eq]; exact sameA hll hinv_k
abbrev epts (l : List Ept) : Pr := slice 9 (l.map rowEp)

theorem w_CSame {a b : Crt}  : Fun Tryz.prog 137 [agg (rowCr a), agg (rowCr b)] (bool (decide (a = b))) := by
 refine fo Tryz.func137 rfl ⟨rfl, rfl⟩ fun M0 w0 => ?_
 refine ac ?_
 refine wk2 2 3 rfl (Tr.cutk [2, 3] [(5, bool (decide (a.serial = b.serial ∧ a.issuer = b.issuer ∧ a.subject = b.subject ∧ a.names = b.names)))] (True) ?_ (fun h1 => ?_))
 refine ac ?_
 refine Ch.cs 12 rfl ?_ ?_ <;> intro h2 q2
 refine ac ?_
 refine Ch.cs 19 rfl ?_ ?_ <;> intro h3 q3
 refine ac ?_
 refine Ch.cs 26 rfl ?_ ?_ <;> intro h4 q4
 refine ac ?_
 refine cy h4 rfl (kc2 (w_SEqT) rfl rfl rfl) ?_
 refine ac ?_
 exact Fin.fam_same () (by simp_all) ⟨⟨_, rfl, bool_eq (by simp_all)⟩, ke rfl, ke rfl, trivial⟩
 refine ac ?_
 exact Fin.fam_same () (by simp_all) ⟨⟨_, rfl, bool_eq (by simp_all)⟩, ke rfl, ke rfl, trivial⟩
 refine ac ?_
 exact Fin.fam_same () (by simp_all) ⟨⟨_, rfl, bool_eq (by simp_all)⟩, ke rfl, ke rfl, trivial⟩
 refine ac ?_
 exact Fin.fam_same () (by simp_all) ⟨⟨_, rfl, bool_eq (by simp_all)⟩, ke rfl, ke rfl, trivial⟩
 refine wk3 2 3 5 rfl (Tr.cutk [2, 3, 5] [(6, bool (decide (a.kalg = b.kalg ∧ a.kbits = b.kbits ∧ a.keyId = b.keyId ∧ a.halg = b.halg ∧ a.hbits = b.hbits ∧ a.skey = b.skey ∧ a.ssum = b.ssum)))] (True) ?_ (fun h5 => ?_))
 refine ac ?_
 refine co rfl (ok_eq24 rfl (vl rfl) (vl rfl)) (cm rfl ?_)
 refine Ch.cs 38 rfl ?_ ?_ <;> intro h6 q6
 refine ac ?_
 refine Ch.cs 45 rfl ?_ ?_ <;> intro h7 q7
 refine ac ?_
 refine cy h7 rfl (ok_eq24 rfl (vl rfl) (vl rfl)) ?_
 refine ac ?_
 refine Ch.cs 52 rfl ?_ ?_ <;> intro h8 q8
 refine ac ?_
 refine cy h8 rfl (ok_eq129 rfl (vl rfl) (vl rfl)) ?_
 refine ac ?_
 exact Fin.fam_same () (by simp_all) ⟨⟨_, rfl, bool_eq (by simp_all)⟩, ke rfl, ke rfl, ke rfl, trivial⟩
 refine ac ?_
 exact Fin.fam_same () (by simp_all) ⟨⟨_, rfl, bool_eq (by simp_all)⟩, ke rfl, ke rfl, ke rfl, trivial⟩
 refine ac ?_
 exact Fin.fam_same () (by simp_all) ⟨⟨_, rfl, bool_eq (by simp_all)⟩, ke rfl, ke rfl, ke rfl, trivial⟩
 refine ac ?_
 exact Fin.fam_same () (by simp_all) ⟨⟨_, rfl, bool_eq (by simp_all)⟩, ke rfl, ke rfl, ke rfl, trivial⟩
 refine ac ?_
 refine Ch.cs 60 rfl ?_ ?_ <;> intro h9 q9
 refine ac ?_
 refine Ch.cs 63 rfl ?_ ?_ <;> intro h10 q10
 refine ac ?_
 refine Ch.cs 70 rfl ?_ ?_ <;> intro h11 q11
 refine ac ?_
 refine Ch.cs 77 rfl ?_ ?_ <;> intro h12 q12
 refine ac ?_
 refine Ch.cs 84 rfl ?_ ?_ <;> intro h13 q13
 refine ac ?_
 refine wk1 4 rfl ?_
 refine ac ?_
 · refine bool_eq ?_; cases a; cases b; simp_all [Bool.beq_eq_decide_eq]
 refine ac ?_
 refine wk1 4 rfl ?_
 refine ac ?_
 · refine bool_eq ?_; cases a; cases b; simp_all [Bool.beq_eq_decide_eq]
 refine ac ?_
 refine wk1 4 rfl ?_
 refine ac ?_
 · refine bool_eq ?_; cases a; cases b; simp_all [Bool.beq_eq_decide_eq]
 refine ac ?_
 refine wk1 4 rfl ?_
 refine ac ?_
 · refine bool_eq ?_; cases a; cases b; simp_all [Bool.beq_eq_decide_eq]
 refine ac ?_
 refine wk1 4 rfl ?_
 refine ac ?_
 · refine bool_eq ?_; cases a; cases b; simp_all [Bool.beq_eq_decide_eq]
 refine ac ?_
 refine wk1 4 rfl ?_
 refine ac ?_
 · refine bool_eq ?_; cases a; cases b; simp_all [Bool.beq_eq_decide_eq]
theorem e_CSame : Entry Tryz.prog 137 := ⟨_, Tryz.func137, rfl, rfl⟩
theorem w_EqFC {a b : List Crt}  : Fun Tryz.prog 85 [certs a, certs b, clo Tryz.prog (fun p : Crt × Crt => [agg (rowCr p.1), agg (rowCr p.2)]) (fun p => bool (decide (p.1 = p.2)))] (bool (decide (a = b))) := by
 refine fo Tryz.func85 rfl ⟨rfl, rfl⟩ fun M0 w0 => (Tr.lenm 0 rfl fun hlm_0 => (Tr.lenm 1 rfl fun hlm_1 => ?_))
 refine ac ?_
 refine ac ?_
 refine Tr.cn rfl ?_ ?_ <;> intro h1 q1
 have hne : ¬ a.length = b.length := by simp_all; omega
 refine ac ?_
 refine ac ?_
 · refine bool_eq ?_; symm; rw [decide_eq_false_iff_not]; rintro rfl; exact hne rfl
 have hll : a.length = b.length := by simp_all; omega
 refine ac ?_
 refine ac ?_
 refine Tr.block (Tr.loopw [(1, _), (2, _), (15, _), (16, _)] (kk4 rfl) (fun k : Nat => [(17, int ((k : Nat) : Int))]) (fun k : Nat => k ≤ (a).length ∧ (a.take k = b.take k)) (fun k : Nat => (a).length - k) 0 (⟨Nat.zero_le _, rfl⟩) ⟨ke rfl, trivial⟩ ?_)
 rintro k ⟨hle_k, hinv_k⟩
 refine ac ?_
 refine Tr.seq ?_
 refine Tr.cn rfl ?_ ?_ <;> intro h2 q2
 have hk_k : k < (a).length := lt_of_dec h2
 obtain ⟨x, hx_k⟩ := at_ hk_k
 obtain ⟨y, hy⟩ := at_ (l := b) (k := k) (by omega)
 refine ac ?_
 refine ao ?_
 refine tp rfl (ok_indexAddr rfl Tryz.underlying25 sz131 (vl rfl) (vl rfl) (by omega) (row_at hx_k)) (tp rfl (ok_loadA rfl agg131 sz131 (vl rfl) rfl rfl) ?_)
 refine TO.alloc rfl rfl (by decide) rfl z131 zo131 (fun b1 => ?_)
 refine tm rfl ?_
 refine sf 0 8 ⟨rfl, rfl, rfl⟩ rfl rfl rfl rfl ?_
 refine ao ?_
 refine ao ?_
 refine tp rfl (ok_indexAddr rfl Tryz.underlying25 sz131 (vl rfl) (vl rfl) (by omega) (row_at hy)) (tp rfl (ok_loadA rfl agg131 sz131 (vl rfl) rfl rfl) ?_)
 refine TO.alloc rfl rfl (by decide) rfl z131 zo131 (fun b2 => ?_)
 refine sf 0 9 ⟨rfl, rfl, rfl⟩ rfl rfl rfl rfl ?_
 refine ao ?_
 refine wk7 1 2 8 9 15 16 17 rfl ?_
 refine ac ?_
 refine co rfl (ok_callc (x, y) rfl (vl rfl) ⟨ke rfl, ke rfl, trivial⟩) ?_
 refine ac ?_
 refine Tr.cn rfl ?_ ?_ <;> intro h3 q3
 refine ac ?_
 refine ac ?_
 · refine bool_eq ?_; symm; rw [decide_eq_false_iff_not]; refine sameN hx_k hy ?_; rintro rfl; simp_all
 refine ac ?_
 refine ac ?_
 exact Fin.fam_same (k + 1) ⟨⟨hk_k, sameY hx_k hy hinv_k (by simp_all)⟩, by omega⟩ ⟨⟨_, rfl, int_succ k⟩, ke rfl, ke rfl, ke rfl, ke rfl, trivial⟩
 have he_k : k = (a).length := by have := ge_of_dec h2; omega
 subst he_k
 refine ac ?_
 refine ac ?_
 refine ac ?_
 · refine bool_eq ?_; symm; rw [decide_eq_true_eq]; exact sameA hll hinv_k
theorem w_ES1 {a b : Idn}  : Fun Tryz.prog 136 [agg (rowId a), agg (rowId b)] (bool (decide (a = b))) := by
 refine fo Tryz.func136 rfl ⟨rfl, rfl⟩ fun M0 w0 => ?_
 refine ac ?_
 refine ac ?_
 refine co rfl (ok_eq24 rfl (vl rfl) (vl rfl)) (cm rfl ?_)
 refine Ch.cs 10 rfl ?_ ?_ <;> intro h1 q1
 refine ac ?_
 refine Ch.cs 17 rfl ?_ ?_ <;> intro h2 q2
 refine ac ?_
 refine cy h2 rfl (ok_call rfl (w_EqFC) ⟨ke rfl, ke rfl, ⟨_, rfl, fn_le_clo (dom := fun p : Crt × Crt => [agg (rowCr p.1), agg (rowCr p.2)]) (res := fun p => bool (decide (p.1 = p.2))) e_CSame (fun p => w_CSame (a := p.1) (b := p.2))⟩, trivial⟩) ?_
 refine ac ?_
 refine wk1 4 rfl ?_
 refine ac ?_
 · refine bool_eq ?_; cases a; cases b; simp_all [Bool.beq_eq_decide_eq]
 refine ac ?_
 refine wk1 4 rfl ?_
 refine ac ?_
 · refine bool_eq ?_; cases a; cases b; simp_all [Bool.beq_eq_decide_eq]
 refine ac ?_
 refine wk1 4 rfl ?_
 refine ac ?_
 · refine bool_eq ?_; cases a; cases b; simp_all [Bool.beq_eq_decide_eq]
theorem e_ES1 : Entry Tryz.prog 136 := ⟨_, Tryz.func136, rfl, rfl⟩
theorem w_EqFN {a b : List Idn}  : Fun Tryz.prog 139 [idns a, idns b, clo Tryz.prog (fun p : Idn × Idn => [agg (rowId p.1), agg (rowId p.2)]) (fun p => bool (decide (p.1 = p.2)))] (bool (decide (a = b))) := by
 refine fo Tryz.func139 rfl ⟨rfl, rfl⟩ fun M0 w0 => (Tr.lenm 0 rfl fun hlm_0 => (Tr.lenm 1 rfl fun hlm_1 => ?_))
 refine ac ?_
 refine ac ?_
 refine Tr.cn rfl ?_ ?_ <;> intro h1 q1
 have hne : ¬ a.length = b.length := by simp_all; omega
 refine ac ?_
 refine ac ?_
 · refine bool_eq ?_; symm; rw [decide_eq_false_iff_not]; rintro rfl; exact hne rfl
 have hll : a.length = b.length := by simp_all; omega
 refine ac ?_
 refine ac ?_
 refine Tr.block (Tr.loopw [(1, _), (2, _), (15, _), (16, _)] (kk4 rfl) (fun k : Nat => [(17, int ((k : Nat) : Int))]) (fun k : Nat => k ≤ (a).length ∧ (a.take k = b.take k)) (fun k : Nat => (a).length - k) 0 (⟨Nat.zero_le _, rfl⟩) ⟨ke rfl, trivial⟩ ?_)
 rintro k ⟨hle_k, hinv_k⟩
 refine ac ?_
 refine Tr.seq ?_
 refine Tr.cn rfl ?_ ?_ <;> intro h2 q2
 have hk_k : k < (a).length := lt_of_dec h2
 obtain ⟨x, hx_k⟩ := at_ hk_k
 obtain ⟨y, hy⟩ := at_ (l := b) (k := k) (by omega)
 refine ac ?_
 refine ao ?_
 refine tp rfl (ok_indexAddr rfl Tryz.underlying30 sz27 (vl rfl) (vl rfl) (by omega) (row_at hx_k)) (tp rfl (ok_loadA rfl agg27 sz27 (vl rfl) rfl rfl) ?_)
 refine TO.alloc rfl rfl (by decide) rfl z27 zo27 (fun b1 => ?_)
 refine tm rfl ?_
 refine sf 0 8 ⟨rfl, rfl, rfl⟩ rfl rfl rfl rfl ?_
 refine ao ?_
 refine ao ?_
 refine tp rfl (ok_indexAddr rfl Tryz.underlying30 sz27 (vl rfl) (vl rfl) (by omega) (row_at hy)) (tp rfl (ok_loadA rfl agg27 sz27 (vl rfl) rfl rfl) ?_)
 refine TO.alloc rfl rfl (by decide) rfl z27 zo27 (fun b2 => ?_)
 refine sf 0 9 ⟨rfl, rfl, rfl⟩ rfl rfl rfl rfl ?_
 refine ao ?_
 refine wk7 1 2 8 9 15 16 17 rfl ?_
 refine ac ?_
 refine co rfl (ok_callc (x, y) rfl (vl rfl) ⟨ke rfl, ke rfl, trivial⟩) ?_
 refine ac ?_
 refine Tr.cn rfl ?_ ?_ <;> intro h3 q3
 refine ac ?_
 refine ac ?_
 · refine bool_eq ?_; symm; rw [decide_eq_false_iff_not]; refine sameN hx_k hy ?_; rintro rfl; simp_all
 refine ac ?_
 refine ac ?_
 exact Fin.fam_same (k + 1) ⟨⟨hk_k, sameY hx_k hy hinv_k (by simp_all)⟩, by omega⟩ ⟨⟨_, rfl, int_succ k⟩, ke rfl, ke rfl, ke rfl, ke rfl, trivial⟩
 have he_k : k = (a).length := by have := ge_of_dec h2; omega
 subst he_k
 refine ac ?_
 refine ac ?_
 refine ac ?_
 · refine bool_eq ?_; symm; rw [decide_eq_true_eq]; exact sameA hll hinv_k
theorem w_ESame {a b : Ept}  : Fun Tryz.prog 91 [agg (rowEp a), agg (rowEp b)] (bool (decide (a = b))) := by
 refine fo Tryz.func91 rfl ⟨rfl, rfl⟩ fun M0 w0 => ?_
 refine ac ?_
 refine ac ?_
 refine wk3 2 3 5 rfl (Tr.cutk [2, 3, 5] [(6, bool (decide (a.suites = b.suites ∧ a.anchors = b.anchors ∧ a.hashes = b.hashes)))] (True) ?_ (fun h1 => ?_))
 refine ac ?_
 refine co rfl (kc2 (w_SEqI) rfl rfl rfl) (cm rfl ?_)
 refine Ch.cs 12 rfl ?_ ?_ <;> intro h2 q2
 refine ac ?_
 refine cy h2 rfl (kc2 (w_SEqI) rfl rfl rfl) ?_
 refine ac ?_
 refine Ch.cs 19 rfl ?_ ?_ <;> intro h3 q3
 refine ac ?_
 refine cy h3 rfl (kc2 (w_SEqI) rfl rfl rfl) ?_
 refine ac ?_
 exact Fin.fam_same () (by simp_all) ⟨⟨_, rfl, bool_eq (by simp_all)⟩, ke rfl, ke rfl, ke rfl, trivial⟩
 refine ac ?_
 exact Fin.fam_same () (by simp_all) ⟨⟨_, rfl, bool_eq (by simp_all)⟩, ke rfl, ke rfl, ke rfl, trivial⟩
 refine ac ?_
 exact Fin.fam_same () (by simp_all) ⟨⟨_, rfl, bool_eq (by simp_all)⟩, ke rfl, ke rfl, ke rfl, trivial⟩
 refine ac ?_
 refine Ch.cs 31 rfl ?_ ?_ <;> intro h4 q4
 refine ac ?_
 refine Ch.cs 38 rfl ?_ ?_ <;> intro h5 q5
 refine ac ?_
 refine Ch.cs 45 rfl ?_ ?_ <;> intro h6 q6
 refine ac ?_
 refine Ch.cs 52 rfl ?_ ?_ <;> intro h7 q7
 refine ac ?_
 refine Ch.cs 59 rfl ?_ ?_ <;> intro h8 q8
 refine ac ?_
 refine Ch.cs 62 rfl ?_ ?_ <;> intro h9 q9
 refine ac ?_
 refine cy h9 rfl (ok_call rfl (w_EqFN) ⟨ke rfl, ke rfl, ⟨_, rfl, fn_le_clo (dom := fun p : Idn × Idn => [agg (rowId p.1), agg (rowId p.2)]) (res := fun p => bool (decide (p.1 = p.2))) e_ES1 (fun p => w_ES1 (a := p.1) (b := p.2))⟩, trivial⟩) ?_
 refine ac ?_
 refine wk1 4 rfl ?_
 refine ac ?_
 · refine bool_eq ?_; cases a; cases b; simp_all [Bool.beq_eq_decide_eq]
 refine ac ?_
 refine wk1 4 rfl ?_
 refine ac ?_
 · refine bool_eq ?_; cases a; cases b; simp_all [Bool.beq_eq_decide_eq]
 refine ac ?_
 refine wk1 4 rfl ?_
 refine ac ?_
 · refine bool_eq ?_; cases a; cases b; simp_all [Bool.beq_eq_decide_eq]
 refine ac ?_
 refine wk1 4 rfl ?_
 refine ac ?_
 · refine bool_eq ?_; cases a; cases b; simp_all [Bool.beq_eq_decide_eq]
 refine ac ?_
 refine wk1 4 rfl ?_
 refine ac ?_
 · refine bool_eq ?_; cases a; cases b; simp_all [Bool.beq_eq_decide_eq]
 refine ac ?_
 refine wk1 4 rfl ?_
 refine ac ?_
 · refine bool_eq ?_; cases a; cases b; simp_all [Bool.beq_eq_decide_eq]
 refine ac ?_
 refine wk1 4 rfl ?_
 refine ac ?_
 · refine bool_eq ?_; cases a; cases b; simp_all [Bool.beq_eq_decide_eq]
theorem e_ESame : Entry Tryz.prog 91 := ⟨_, Tryz.func91, rfl, rfl⟩
theorem w_EqFE {a b : List Ept}  : Fun Tryz.prog 90 [epts a, epts b, clo Tryz.prog (fun p : Ept × Ept => [agg (rowEp p.1), agg (rowEp p.2)]) (fun p => bool (decide (p.1 = p.2)))] (bool (decide (a = b))) := by
 refine fo Tryz.func90 rfl ⟨rfl, rfl⟩ fun M0 w0 => (Tr.lenm 0 rfl fun hlm_0 => (Tr.lenm 1 rfl fun hlm_1 => ?_))
 refine ac ?_
 refine ac ?_
 refine Tr.cn rfl ?_ ?_ <;> intro h1 q1
 have hne : ¬ a.length = b.length := by simp_all; omega
 refine ac ?_
 refine ac ?_
 · refine bool_eq ?_; symm; rw [decide_eq_false_iff_not]; rintro rfl; exact hne rfl
 have hll : a.length = b.length := by simp_all; omega
 refine ac ?_
 refine ac ?_
 refine Tr.block (Tr.loopw [(1, _), (2, _), (15, _), (16, _)] (kk4 rfl) (fun k : Nat => [(17, int ((k : Nat) : Int))]) (fun k : Nat => k ≤ (a).length ∧ (a.take k = b.take k)) (fun k : Nat => (a).length - k) 0 (⟨Nat.zero_le _, rfl⟩) ⟨ke rfl, trivial⟩ ?_)
 rintro k ⟨hle_k, hinv_k⟩
 refine ac ?_
 refine Tr.seq ?_
 refine Tr.cn rfl ?_ ?_ <;> intro h2 q2
 have hk_k : k < (a).length := lt_of_dec h2
 obtain ⟨x, hx_k⟩ := at_ hk_k
 obtain ⟨y, hy⟩ := at_ (l := b) (k := k) (by omega)
 refine ac ?_
 refine ao ?_
 refine tp rfl (ok_indexAddr rfl Tryz.underlying37 sz32 (vl rfl) (vl rfl) (by omega) (row_at hx_k)) (tp rfl (ok_loadA rfl agg32 sz32 (vl rfl) rfl rfl) ?_)
 refine TO.alloc rfl rfl (by decide) rfl z32 zo32 (fun b1 => ?_)
 refine tm rfl ?_
 refine sf 0 8 ⟨rfl, rfl, rfl⟩ rfl rfl rfl rfl ?_
 refine ao ?_
 refine ao ?_
 refine tp rfl (ok_indexAddr rfl Tryz.underlying37 sz32 (vl rfl) (vl rfl) (by omega) (row_at hy)) (tp rfl (ok_loadA rfl agg32 sz32 (vl rfl) rfl rfl) ?_)
 refine TO.alloc rfl rfl (by decide) rfl z32 zo32 (fun b2 => ?_)
 refine sf 0 9 ⟨rfl, rfl, rfl⟩ rfl rfl rfl rfl ?_
 refine ao ?_
 refine wk7 1 2 8 9 15 16 17 rfl ?_
 refine ac ?_
 refine co rfl (ok_callc (x, y) rfl (vl rfl) ⟨ke rfl, ke rfl, trivial⟩) ?_
 refine ac ?_
 refine Tr.cn rfl ?_ ?_ <;> intro h3 q3
 refine ac ?_
 refine ac ?_
 · refine bool_eq ?_; symm; rw [decide_eq_false_iff_not]; refine sameN hx_k hy ?_; rintro rfl; simp_all
 refine ac ?_
 refine ac ?_
 exact Fin.fam_same (k + 1) ⟨⟨hk_k, sameY hx_k hy hinv_k (by simp_all)⟩, by omega⟩ ⟨⟨_, rfl, int_succ k⟩, ke rfl, ke rfl, ke rfl, ke rfl, trivial⟩
 have he_k : k = (a).length := by have := ge_of_dec h2; omega
 subst he_k
 refine ac ?_
 refine ac ?_
 refine ac ?_
 · refine bool_eq ?_; symm; rw [decide_eq_true_eq]; exact sameA hll hinv_k
end Go.Proofs.YtppeeogffbpcbaaGreat
namespace Go.Proofs.YtppeeogffbpcbaaGreat
open Go Go.RowKit Cp

/-- A link of an item. -/
structure Lnk where
  alg : Int
  bits : Int
  day : Int
  deriving DecidableEq
abbrev rowL (x : Lnk) : List Pr := [int x.alg, int x.bits, int x.day]
abbrev lnks (l : List Lnk) : Pr := slice 3 (l.map rowL)
/-- An item. -/
structure Itm where
  name : List UInt8
  kind : Int
  purpose : Int
  links : List Lnk
  until_ : Int
  deriving DecidableEq
abbrev rowIt (x : Itm) : List Pr := [str x.name, int x.kind, int x.purpose, lnks x.links, int x.until_]
abbrev itms (l : List Itm) : Pr := slice 5 (l.map rowIt)
/-- An edge. -/
structure Edg where
  client : Int
  server : Int
  deriving DecidableEq
abbrev rowG (x : Edg) : List Pr := [int x.client, int x.server]
abbrev edgs (l : List Edg) : Pr := slice 2 (l.map rowG)
abbrev zeroL : Lnk := ⟨0, 0, 0⟩
abbrev zeroG : Edg := ⟨0, 0⟩
def linkAt (l : List Lnk) (i : Nat) : Bool := decide (strength (l[i]?.getD zeroL).alg (l[i]?.getD zeroL).bits > 0) && decide (0 ≤ (l[i]?.getD zeroL).day) && decide ((l[i]?.getD zeroL).day ≤ 40000) && (decide (i = 0) || decide ((l[i - 1]?.getD zeroL).day < (l[i]?.getD zeroL).day))
def itemB (x : Itm) : Bool := (named x.name && decide (x.kind = 1 ∨ x.kind = 2) && decide (1 ≤ x.purpose) && decide (x.purpose ≤ 4) && decide (1 ≤ x.links.length) && decide (x.links.length ≤ 8)) && allI (linkAt x.links) x.links.length && (decide ((x.links[0]?.getD zeroL).day ≤ x.until_) && decide (x.until_ ≤ 40000))
structure ItmOk (x : Itm) : Prop where
  name : named x.name = true
  kind : x.kind = 1 ∨ x.kind = 2
  p1 : 1 ≤ x.purpose
  p4 : x.purpose ≤ 4
  l1 : 1 ≤ x.links.length
  l8 : x.links.length ≤ 8
  lnk : ∀ j, j < x.links.length → linkAt x.links j = true
  u0 : (x.links[0]?.getD zeroL).day ≤ x.until_
  u1 : x.until_ ≤ 40000
theorem item_iff {x : Itm} : itemB x = true ↔ ItmOk x := by
  unfold itemB
  simp only [Bool.and_eq_true, decide_eq_true_eq, allI_iff]
  exact ⟨fun ⟨⟨⟨⟨⟨⟨⟨h1, h2⟩, h3⟩, h4⟩, h5⟩, h6⟩, h7⟩, h8, h9⟩ => ⟨h1, h2, h3, h4, h5, h6, h7, h8, h9⟩, fun h => ⟨⟨⟨⟨⟨⟨⟨h.name, h.kind⟩, h.p1⟩, h.p4⟩, h.l1⟩, h.l8⟩, h.lnk⟩, h.u0, h.u1⟩⟩
def edgeAt (n : Nat) (l : List Edg) (i : Nat) : Bool := (decide (0 ≤ (l[i]?.getD zeroG).client ∧ (l[i]?.getD zeroG).client < n) && decide (0 ≤ (l[i]?.getD zeroG).server ∧ (l[i]?.getD zeroG).server < n) && decide ((l[i]?.getD zeroG).client ≠ (l[i]?.getD zeroG).server)) && (decide (i = 0) || decide ((l[i - 1]?.getD zeroG).client < (l[i]?.getD zeroG).client ∨ ((l[i - 1]?.getD zeroG).client = (l[i]?.getD zeroG).client ∧ (l[i - 1]?.getD zeroG).server < (l[i]?.getD zeroG).server)))
def edgesB (n : Nat) (l : List Edg) : Bool := allI (edgeAt n l) l.length && decide (l.length ≤ 40)

theorem w_LtCheck {x : Itm} (hx : x.name.length ≤ maxLen) : Fun Tryz.prog 134 [agg (rowIt x)] (int (if itemB x then 0 else 30)) := by
 refine fo Tryz.func134 rfl ⟨rfl, rfl⟩ fun M0 w0 => ?_
 refine ac ?_
 refine wk1 1 rfl (Tr.cutk [1] [(3, bool (decide (x.kind = 1 ∨ x.kind = 2)))] (True) ?_ (fun h1 => ?_))
 refine ac ?_
 refine Ch.cs 9 rfl ?_ ?_ <;> intro h2 q2
 refine ac ?_
 exact Fin.fam_same () trivial ⟨⟨_, rfl, bool_eq (by simp_all [Bool.beq_eq_decide_eq])⟩, ke rfl, trivial⟩
 refine ac ?_
 exact Fin.fam_same () trivial ⟨⟨_, rfl, bool_eq (by simp_all [Bool.beq_eq_decide_eq])⟩, ke rfl, trivial⟩
 refine wk2 1 3 rfl (Tr.cutk [1] [] ((named x.name = true ∧ (x.kind = 1 ∨ x.kind = 2) ∧ 1 ≤ x.purpose ∧ x.purpose ≤ 4) ∧ 1 ≤ x.links.length ∧ x.links.length ≤ 8) ?_ (fun hpre => ?_))
 refine ac ?_
 refine co rfl (kc1 (w_Named hx) rfl rfl) ?_
 refine ac ?_
 refine Ch.cs 18 rfl ?_ ?_ <;> intro h4 q4
 refine ac ?_
 refine wk2 1 43 rfl ?_
 refine ac ?_
 refine ac ?_
 · refine int_eq (if_neg (fun hv => ?_)).symm; have ok := item_iff.1 hv; have o1 := ok.name; have o2 := ok.kind; have o3 := ok.p1; have o4 := ok.p4; have o5 := ok.l1; have o6 := ok.l8; have o7 := ok.u0; have o8 := ok.u1; (simp_all)
 refine ac ?_
 refine Ch.cs 22 rfl ?_ ?_ <;> intro h5 q5
 refine ac ?_
 refine wk2 1 43 rfl ?_
 refine ac ?_
 refine ac ?_
 · refine int_eq (if_neg (fun hv => ?_)).symm; have ok := item_iff.1 hv; have o1 := ok.name; have o2 := ok.kind; have o3 := ok.p1; have o4 := ok.p4; have o5 := ok.l1; have o6 := ok.l8; have o7 := ok.u0; have o8 := ok.u1; (omega)
 refine ac ?_
 refine Ch.cs 27 rfl ?_ ?_ <;> intro h6 q6
 refine ac ?_
 refine wk2 1 43 rfl ?_
 refine ac ?_
 refine ac ?_
 · refine int_eq (if_neg (fun hv => ?_)).symm; have ok := item_iff.1 hv; have o1 := ok.name; have o2 := ok.kind; have o3 := ok.p1; have o4 := ok.p4; have o5 := ok.l1; have o6 := ok.l8; have o7 := ok.u0; have o8 := ok.u1; (omega)
 refine ac ?_
 refine Ch.cs 32 rfl ?_ ?_ <;> intro h7 q7
 refine ac ?_
 refine wk2 1 43 rfl ?_
 refine ac ?_
 refine ac ?_
 · refine int_eq (if_neg (fun hv => ?_)).symm; have ok := item_iff.1 hv; have o1 := ok.name; have o2 := ok.kind; have o3 := ok.p1; have o4 := ok.p4; have o5 := ok.l1; have o6 := ok.l8; have o7 := ok.u0; have o8 := ok.u1; (omega)
 refine ac ?_
 refine Ch.cs 38 rfl ?_ ?_ <;> intro h8 q8
 refine ac ?_
 refine wk2 1 43 rfl ?_
 refine ac ?_
 refine ac ?_
 · refine int_eq (if_neg (fun hv => ?_)).symm; have ok := item_iff.1 hv; have o1 := ok.name; have o2 := ok.kind; have o3 := ok.p1; have o4 := ok.p4; have o5 := ok.l1; have o6 := ok.l8; have o7 := ok.u0; have o8 := ok.u1; (omega)
 refine ac ?_
 refine wk2 1 43 rfl ?_
 refine Tr.cn rfl ?_ ?_ <;> intro h9 q9
 refine ac ?_
 refine ac ?_
 · refine int_eq (if_neg (fun hv => ?_)).symm; have ok := item_iff.1 hv; have o1 := ok.name; have o2 := ok.kind; have o3 := ok.p1; have o4 := ok.p4; have o5 := ok.l1; have o6 := ok.l8; have o7 := ok.u0; have o8 := ok.u1; (omega)
 refine Tr.skip (Fin.fam_same () ⟨⟨by simp_all, by simp_all, by omega, by omega⟩, by omega, by omega⟩ ⟨ke rfl, trivial⟩)
 obtain ⟨⟨hq1, hq2, hq3, hq4⟩, hq5, hq6⟩ := hpre
 obtain ⟨c0, hc0⟩ := at_ (l := x.links) (k := 0) (by omega)
 have hg0 := getD_at (d := zeroL) hc0
 refine ac ?_
 refine Tr.block (Tr.loopw [(1, _), (45, _), (46, _)] (kk3 rfl) (fun k : Nat => [(47, int ((k : Nat) : Int))]) (fun k : Nat => k ≤ (x.links).length ∧ (∀ j, j < k → linkAt x.links j = true)) (fun k : Nat => (x.links).length - k) 0 (⟨Nat.zero_le _, fun j hj => absurd hj (by omega)⟩) ⟨ke rfl, trivial⟩ ?_)
 rintro k ⟨hle_k, hinv_k⟩
 refine ac ?_
 refine Tr.seq ?_
 refine Tr.cn rfl ?_ ?_ <;> intro h10 q10
 have hk_k : k < (x.links).length := lt_of_dec h10
 obtain ⟨c, hx_k⟩ := at_ hk_k
 have hg := getD_at (d := zeroL) hx_k
 refine ac ?_
 refine ao ?_
 refine tp rfl (ok_indexAddr rfl Tryz.underlying105 sz152 (vl rfl) (vl rfl) (by omega) (row_at hx_k)) (tp rfl (ok_loadA rfl agg152 sz152 (vl rfl) rfl rfl) ?_)
 refine TO.alloc rfl rfl (by decide) rfl z152 zo152 (fun b1 => ?_)
 refine tm rfl ?_
 refine sf 0 5 ⟨rfl, rfl, rfl⟩ rfl rfl rfl rfl ?_
 refine ao ?_
 refine ac ?_
 refine co rfl (kc1 (w_Valid) rfl rfl) ?_
 refine ac ?_
 refine Ch.cs 56 rfl ?_ ?_ <;> intro h11 q11
 refine ac ?_
 refine wk5 1 45 46 47 81 rfl ?_
 refine ac ?_
 refine ac ?_
 · refine int_eq (if_neg (fun hv => ?_)).symm; have ok := item_iff.1 hv; have o1 := ok.name; have o2 := ok.kind; have o3 := ok.p1; have o4 := ok.p4; have o5 := ok.l1; have o6 := ok.l8; have o7 := ok.u0; have o8 := ok.u1; (have h_ := ok.lnk k (by omega); unfold linkAt at h_; rw [hg] at h_; simp_all; omega)
 refine ac ?_
 refine Ch.cs 61 rfl ?_ ?_ <;> intro h12 q12
 refine ac ?_
 refine wk5 1 45 46 47 81 rfl ?_
 refine ac ?_
 refine ac ?_
 · refine int_eq (if_neg (fun hv => ?_)).symm; have ok := item_iff.1 hv; have o1 := ok.name; have o2 := ok.kind; have o3 := ok.p1; have o4 := ok.p4; have o5 := ok.l1; have o6 := ok.l8; have o7 := ok.u0; have o8 := ok.u1; (have h_ := ok.lnk k (by omega); unfold linkAt at h_; rw [hg] at h_; simp_all; omega)
 refine ac ?_
 refine Ch.cs 66 rfl ?_ ?_ <;> intro h13 q13
 refine ac ?_
 refine wk5 1 45 46 47 81 rfl ?_
 refine ac ?_
 refine ac ?_
 · refine int_eq (if_neg (fun hv => ?_)).symm; have ok := item_iff.1 hv; have o1 := ok.name; have o2 := ok.kind; have o3 := ok.p1; have o4 := ok.p4; have o5 := ok.l1; have o6 := ok.l8; have o7 := ok.u0; have o8 := ok.u1; (have h_ := ok.lnk k (by omega); unfold linkAt at h_; rw [hg] at h_; simp_all; omega)
 refine ac ?_
 refine Ch.cs 69 rfl ?_ ?_ <;> intro h14 q14
 have hk0 : 0 < k := by simpa using h14
 obtain ⟨y, hy⟩ := at_ (l := x.links) (k := k - 1) (by omega)
 have hgy := getD_at (d := zeroL) hy
 refine ac ?_
 refine cy h14 rfl (ok_indexAddr rfl Tryz.underlying105 sz152 (vl rfl) (vl rfl) (by omega) (by rw [show ((k : Nat) : Int) - 1 = ((k - 1 : Nat) : Int) by omega]; exact row_at hy)) ?_
 refine ac ?_
 refine wk5 1 45 46 47 81 rfl ?_
 refine Tr.cn rfl ?_ ?_ <;> intro h15 q15
 refine ac ?_
 refine ac ?_
 · refine int_eq (if_neg (fun hv => ?_)).symm; have ok := item_iff.1 hv; have o1 := ok.name; have o2 := ok.kind; have o3 := ok.p1; have o4 := ok.p4; have o5 := ok.l1; have o6 := ok.l8; have o7 := ok.u0; have o8 := ok.u1; (have h_ := ok.lnk k (by omega); unfold linkAt at h_; rw [hg, hgy] at h_; simp_all; omega)
 refine ac ?_
 refine ac ?_
 exact Fin.fam_same (k + 1) ⟨⟨hk_k, allI_step hinv_k (by unfold linkAt; rw [hg, hgy]; simp_all)⟩, by omega⟩ ⟨⟨_, rfl, int_succ k⟩, ke rfl, ke rfl, ke rfl, trivial⟩
 have hk00 : ¬ 0 < k := by simpa using h14
 refine ac ?_
 refine wk5 1 45 46 47 81 rfl ?_
 refine ac ?_
 refine ac ?_
 exact Fin.fam_same (k + 1) ⟨⟨hk_k, allI_step hinv_k (by unfold linkAt; rw [hg]; simp_all)⟩, by omega⟩ ⟨⟨_, rfl, int_succ k⟩, ke rfl, ke rfl, ke rfl, trivial⟩
 have he_k : k = (x.links).length := by have := ge_of_dec h10; omega
 subst he_k
 refine ac ?_
 refine ac ?_
 refine co rfl (ok_indexAddr rfl Tryz.underlying105 sz152 (vl rfl) (vl rfl) (by omega) (row_at (k := 0) hc0)) ?_
 refine ac ?_
 refine Ch.cs 91 rfl ?_ ?_ <;> intro h16 q16
 refine ac ?_
 refine wk1 95 rfl ?_
 refine ac ?_
 refine ac ?_
 · refine int_eq (if_neg (fun hv => ?_)).symm; have ok := item_iff.1 hv; have o1 := ok.name; have o2 := ok.kind; have o3 := ok.p1; have o4 := ok.p4; have o5 := ok.l1; have o6 := ok.l8; have o7 := ok.u0; have o8 := ok.u1; (simp_all; omega)
 refine ac ?_
 refine wk1 95 rfl ?_
 refine Tr.cn rfl ?_ ?_ <;> intro h17 q17
 refine ac ?_
 refine ac ?_
 · refine int_eq (if_neg (fun hv => ?_)).symm; have ok := item_iff.1 hv; have o1 := ok.name; have o2 := ok.kind; have o3 := ok.p1; have o4 := ok.p4; have o5 := ok.l1; have o6 := ok.l8; have o7 := ok.u0; have o8 := ok.u1; (omega)
 refine ac ?_
 refine ac ?_
 refine ac ?_
 · refine int_eq (if_pos (item_iff.2 ⟨hq1, hq2, hq3, hq4, hq5, hq6, hinv_k, by rw [hg0]; omega, by omega⟩)).symm
theorem w_linked {l : List Edg} {n : Nat}  : Fun Tryz.prog 135 [edgs l, int ((n : Nat) : Int)] (bool (edgesB n l)) := by
 refine Fun.of Tryz.func135 rfl rfl (by exact Nat.le_of_ble_eq_true rfl) fun M0 w0 => ?_
 refine Tr.lenm 0 rfl fun hlm_0 => (Tr.seq (Tr.reg0 (cm rfl (Ch.nil (Fin.go (Tr.seq (Tr.seq (Tr.reg0 (cm rfl (co rfl (ok_lenm rfl Tryz.underlying38 (vl rfl)) (cm rfl (Ch.nil (Fin.go (Tr.block ?_))))))))))))))
 refine Tr.loopw [(0, _), (1, _), (7, _), (8, _)] (kk4 rfl) (fun k : Nat => [(9, int ((k : Nat) : Int))]) (fun k : Nat => k ≤ (l).length ∧ (∀ j, j < k → edgeAt n l j = true)) (fun k : Nat => (l).length - k) 0 (⟨Nat.zero_le _, fun j hj => absurd hj (by omega)⟩) ⟨ke rfl, trivial⟩ ?_
 rintro k ⟨hle_k, hinv_k⟩
 refine Tr.seq (Tr.reg0 (co rfl (ki rfl rfl rfl rfl) (Ch.nil (Fin.go (Tr.seq ?_)))))
 refine Tr.cn rfl ?_ ?_ <;> intro h1 q1
 have hk_k : k < (l).length := lt_of_dec h1
 obtain ⟨c, hx_k⟩ := at_ hk_k
 have hg := getD_at (d := zeroG) hx_k
 refine Tr.skip (Fin.go (Tr.seq (Tr.block (Tr.seq (Tr.regT (tm rfl (tp rfl (ok_indexAddr rfl Tryz.underlying38 sz80 (vl rfl) (vl rfl) (by omega) (row_at hx_k)) (tp rfl (ok_loadA rfl agg80 sz80 (vl rfl) rfl rfl) ?_))))))))
 refine TO.alloc rfl rfl (by decide) rfl z80 zo80 (fun b1 => ?_)
 refine tm rfl (TO.store_all 0 rfl rfl rfl (vl rfl) (VL.le (vl rfl) (agg_cellsP _)) rfl sz80 rfl rfl (TO.freeze 0 6 rfl rfl (TO.nil (Fin.go (Tr.seq (Tr.seq (Tr.reg0 (co rfl (kfa rfl fo80_0 rfl rfl) (co rfl (kl1 rfl one3 rfl) (co rfl (ki rfl rfl rfl rfl) (cm rfl ?_)))))))))))
 refine Ch.cs 17 rfl ?_ ?_ <;> intro h2 q2
 iterate 4 refine cnf h2 rfl ?_
 refine co rfl (kpt rfl rfl h2 rfl) (cm rfl (cnd rfl rfl (cnd rfl rfl (cnd rfl rfl (co rfl (kpt rfl rfl rfl rfl) (cm rfl ?_))))))
 iterate 4 refine cnd rfl rfl ?_
 refine co rfl (kpt rfl rfl rfl rfl) (cm rfl ?_)
 iterate 5 refine cnd rfl rfl ?_
 refine co rfl (kpt rfl rfl rfl rfl) (Ch.nil (Fin.go (wk8 0 1 5 6 7 8 9 40 rfl (Tr.cond rfl (fun _ => ?_) (fun h => nomatch h)))))
 refine Tr.seq (Tr.reg0 (cm rfl (Ch.nil (Fin.go (Tr.ret (Fin.then_ret (Fin.block_ret (Fin.then_ret (Fin.then_ret (Fin.block_ret (Fin.then_ret (Fin.ret1 rfl (OutW.bse _ _) rfl ?_))))))))))))
 · refine bool_eq ?_; unfold edgesB; rw [allI_hit (p := edgeAt n l) (k := k) (by omega) (by unfold edgeAt; rw [hg]; simp_all; omega)]; rfl
 refine cy h2 rfl (kfa rfl fo80_0 rfl rfl) (cy h2 rfl (kl1 rfl one3 rfl) (cym h2 rfl (cy h2 rfl (ki rfl rfl rfl rfl) (co rfl (kpf rfl rfl h2 rfl) (cm rfl ?_)))))
 refine Ch.cs 23 rfl ?_ ?_ <;> intro h3 q3
 refine cnf h3 rfl (cnf h3 rfl (cnf h3 rfl (co rfl (kpt rfl rfl h3 rfl) (cm rfl ?_))))
 iterate 4 refine cnd rfl rfl ?_
 refine co rfl (kpt rfl rfl rfl rfl) (cm rfl ?_)
 iterate 5 refine cnd rfl rfl ?_
 refine co rfl (kpt rfl rfl rfl rfl) (Ch.nil (Fin.go (wk8 0 1 5 6 7 8 9 40 rfl (Tr.cond rfl (fun _ => ?_) (fun h => nomatch h)))))
 refine Tr.seq (Tr.reg0 (cm rfl (Ch.nil (Fin.go (Tr.ret (Fin.then_ret (Fin.block_ret (Fin.then_ret (Fin.then_ret (Fin.block_ret (Fin.then_ret (Fin.ret1 rfl (OutW.bse _ _) rfl ?_))))))))))))
 · refine bool_eq ?_; unfold edgesB; rw [allI_hit (p := edgeAt n l) (k := k) (by omega) (by unfold edgeAt; rw [hg]; simp_all; omega)]; rfl
 refine cy h3 rfl (kfa rfl fo80_1 rfl rfl) (cy h3 rfl (kl1 rfl one3 rfl) (cy h3 rfl (ki rfl rfl rfl rfl) (co rfl (kpf rfl rfl h3 rfl) (cm rfl ?_))))
 refine Ch.cs 28 rfl ?_ ?_ <;> intro h4 q4
 iterate 4 refine cnf h4 rfl ?_
 refine co rfl (kpt rfl rfl h4 rfl) (cm rfl ?_)
 iterate 5 refine cnd rfl rfl ?_
 refine co rfl (kpt rfl rfl rfl rfl) (Ch.nil (Fin.go (wk8 0 1 5 6 7 8 9 40 rfl (Tr.cond rfl (fun _ => ?_) (fun h => nomatch h)))))
 refine Tr.seq (Tr.reg0 (cm rfl (Ch.nil (Fin.go (Tr.ret (Fin.then_ret (Fin.block_ret (Fin.then_ret (Fin.then_ret (Fin.block_ret (Fin.then_ret (Fin.ret1 rfl (OutW.bse _ _) rfl ?_))))))))))))
 · refine bool_eq ?_; unfold edgesB; rw [allI_hit (p := edgeAt n l) (k := k) (by omega) (by unfold edgeAt; rw [hg]; simp_all; omega)]; rfl
 refine cy h4 rfl (kfa rfl fo80_1 rfl rfl) (cy h4 rfl (kl1 rfl one3 rfl) (cym h4 rfl (cy h4 rfl (ki rfl rfl rfl rfl) (co rfl (kpf rfl rfl h4 rfl) (cm rfl ?_)))))
 refine Ch.cs 34 rfl ?_ ?_ <;> intro h5 q5
 iterate 5 refine cnf h5 rfl ?_
 refine co rfl (kpt rfl rfl h5 rfl) (Ch.nil (Fin.go (wk8 0 1 5 6 7 8 9 40 rfl (Tr.cond rfl (fun _ => ?_) (fun h => nomatch h)))))
 refine Tr.seq (Tr.reg0 (cm rfl (Ch.nil (Fin.go (Tr.ret (Fin.then_ret (Fin.block_ret (Fin.then_ret (Fin.then_ret (Fin.block_ret (Fin.then_ret (Fin.ret1 rfl (OutW.bse _ _) rfl ?_))))))))))))
 · refine bool_eq ?_; unfold edgesB; rw [allI_hit (p := edgeAt n l) (k := k) (by omega) (by unfold edgeAt; rw [hg]; simp_all; omega)]; rfl
 refine cy h5 rfl (kfa rfl fo80_0 rfl rfl) (cy h5 rfl (kl1 rfl one3 rfl) (cy h5 rfl (kfa rfl fo80_1 rfl rfl) (cy h5 rfl (kl1 rfl one3 rfl) (cy h5 rfl (ki rfl rfl rfl rfl) (co rfl (kpf rfl rfl h5 rfl) (Ch.nil (Fin.go (wk8 0 1 5 6 7 8 9 40 rfl ?_))))))))
 refine Tr.cn rfl ?_ ?_ <;> intro h6 q6
 refine Tr.seq (Tr.reg0 (cm rfl (Ch.nil (Fin.go (Tr.ret (Fin.then_ret (Fin.block_ret (Fin.then_ret (Fin.then_ret (Fin.block_ret (Fin.then_ret (Fin.ret1 rfl (OutW.bse _ _) rfl ?_))))))))))))
 · refine bool_eq ?_; unfold edgesB; rw [allI_hit (p := edgeAt n l) (k := k) (by omega) (by unfold edgeAt; rw [hg]; simp_all)]; rfl
 refine Tr.skip (Fin.go (Tr.seq (Tr.reg1 mixed (by kernel_rfl) (cm rfl (co rfl (ki rfl rfl rfl rfl) (cm rfl ?_))))))
 refine Ch.cs 43 rfl ?_ ?_ <;> intro h7 q7
 have hk0 : 0 < k := by simpa using h7
 obtain ⟨y, hy⟩ := at_ (l := l) (k := k - 1) (by omega)
 have hgy := getD_at (d := zeroG) hy
 refine cym h7 rfl (cym h7 rfl ?_)
 refine cy h7 rfl (ok_sub rfl (vl rfl) (vl rfl) ?hin) ?_; case hin => unfold InI; omega
 refine cy h7 rfl (ok_indexAddr rfl Tryz.underlying38 sz80 (vl rfl) (vl rfl) (by omega) (by rw [show ((k : Nat) : Int) - 1 = ((k - 1 : Nat) : Int) by omega]; exact row_at hy)) ?_
 refine cy h7 rfl (kfa rfl fo80_0 rfl rfl) (cy h7 rfl (kl1 rfl one3 rfl) (cy h7 rfl (kfa rfl fo80_0 rfl rfl) (cy h7 rfl (kl1 rfl one3 rfl) (cy h7 rfl (ki rfl rfl rfl rfl) (cym h7 rfl ?_)))))
 refine Ch.cs 53 rfl ?_ ?_ <;> intro h8 q8
 iterate 10 refine cnf h8 rfl ?_
 iterate 9 refine cu rfl ?_
 refine cnf h8 rfl (cy h7 rfl (kpt rfl rfl h8 rfl) (co rfl (kpt rfl rfl h7 rfl) (Ch.nil (Fin.go (wk6 0 1 7 8 9 75 rfl (Tr.cond rfl (fun _ => ?_) (fun h => nomatch h)))))))
 refine Tr.seq (Tr.reg0 (cm rfl (Ch.nil (Fin.go (Tr.ret (Fin.block_ret (Fin.then_ret (Fin.then_ret (Fin.block_ret (Fin.then_ret (Fin.ret1 rfl (OutW.bse _ _) rfl ?_)))))))))))
 · refine bool_eq ?_; unfold edgesB; rw [allI_hit (p := edgeAt n l) (k := k) (by omega) (by unfold edgeAt; rw [hg, hgy]; simp_all; omega)]; rfl
 refine cym h8 rfl (cym h8 rfl ?_)
 refine cy h8 rfl (ok_sub rfl (vl rfl) (vl rfl) ?hin) ?_; case hin => unfold InI; omega
 refine cy h8 rfl (ok_indexAddr rfl Tryz.underlying38 sz80 (vl rfl) (vl rfl) (by omega) (by rw [show ((k : Nat) : Int) - 1 = ((k - 1 : Nat) : Int) by omega]; exact row_at hy)) ?_
 refine cy h8 rfl (kfa rfl fo80_0 rfl rfl) (cy h8 rfl (kl1 rfl one3 rfl) (cy h8 rfl (kfa rfl fo80_0 rfl rfl) (cy h8 rfl (kl1 rfl one3 rfl) (cy h8 rfl (ki rfl rfl rfl rfl) (cym h8 rfl ?_)))))
 refine Ch.cs 63 rfl ?_ ?_ <;> intro h9 q9
 refine cym h9 rfl (cym h9 rfl ?_)
 refine cy h9 rfl (ok_sub rfl (vl rfl) (vl rfl) ?hin) ?_; case hin => unfold InI; omega
 refine cy h9 rfl (ok_indexAddr rfl Tryz.underlying38 sz80 (vl rfl) (vl rfl) (by omega) (by rw [show ((k : Nat) : Int) - 1 = ((k - 1 : Nat) : Int) by omega]; exact row_at hy)) ?_
 refine cy h9 rfl (kfa rfl fo80_1 rfl rfl) (cy h9 rfl (kl1 rfl one3 rfl) (cy h9 rfl (kfa rfl fo80_1 rfl rfl) (cy h9 rfl (kl1 rfl one3 rfl) (cy h9 rfl (ki rfl rfl rfl rfl) (cy h8 rfl (kpt rfl rfl h9 rfl) (cy h7 rfl (kpf rfl rfl h8 rfl) (co rfl (kpt rfl rfl h7 rfl) (Ch.nil (Fin.go (wk6 0 1 7 8 9 75 rfl ?_))))))))))
 refine Tr.cn rfl ?_ ?_ <;> intro h10 q10
 refine Tr.seq (Tr.reg0 (cm rfl (Ch.nil (Fin.go (Tr.ret (Fin.block_ret (Fin.then_ret (Fin.then_ret (Fin.block_ret (Fin.then_ret (Fin.ret1 rfl (OutW.bse _ _) rfl ?_)))))))))))
 · refine bool_eq ?_; unfold edgesB; rw [allI_hit (p := edgeAt n l) (k := k) (by omega) (by unfold edgeAt; rw [hg, hgy]; simp_all; omega)]; rfl
 refine Tr.skip (Fin.block (Fin.go (Tr.reg0 (cad rfl rfl rfl rfl (by omega) (cm rfl (Ch.nil ?_))))))
 exact Fin.fam_same (k + 1) ⟨⟨hk_k, allI_step hinv_k (by unfold edgeAt; rw [hg, hgy]; simp_all)⟩, by omega⟩ ⟨⟨_, rfl, int_succ k⟩, ke rfl, ke rfl, ke rfl, ke rfl, trivial⟩
 iterate 9 refine cnt h9 rfl ?_
 refine cy h8 rfl (kpf rfl rfl h9 rfl) (cy h7 rfl (kpf rfl rfl h8 rfl) (co rfl (kpt rfl rfl h7 rfl) (Ch.nil (Fin.go (wk6 0 1 7 8 9 75 rfl (Tr.cond rfl (fun h => nomatch h) (fun _ => ?_)))))))
 refine Tr.skip (Fin.block (Fin.go (Tr.reg0 (cad rfl rfl rfl rfl (by omega) (cm rfl (Ch.nil ?_))))))
 exact Fin.fam_same (k + 1) ⟨⟨hk_k, allI_step hinv_k (by unfold edgeAt; rw [hg, hgy]; simp_all; omega)⟩, by omega⟩ ⟨⟨_, rfl, int_succ k⟩, ke rfl, ke rfl, ke rfl, ke rfl, trivial⟩
 have hk00 : ¬ 0 < k := by simpa using h7
 iterate 10 refine cnt h7 rfl ?_
 iterate 20 refine cu rfl ?_
 refine cnt h7 rfl (co rfl (kpf rfl rfl h7 rfl) (Ch.nil (Fin.go (wk6 0 1 7 8 9 75 rfl (Tr.cond rfl (fun h => nomatch h) (fun _ => ?_))))))
 refine Tr.skip (Fin.block (Fin.go (Tr.reg0 (cad rfl rfl rfl rfl (by omega) (cm rfl (Ch.nil ?_))))))
 exact Fin.fam_same (k + 1) ⟨⟨hk_k, allI_step hinv_k (by unfold edgeAt; rw [hg]; simp_all)⟩, by omega⟩ ⟨⟨_, rfl, int_succ k⟩, ke rfl, ke rfl, ke rfl, ke rfl, trivial⟩
 have he_k : k = (l).length := by have := ge_of_dec h1; omega
 subst he_k
 refine Tr.exit (Fin.then_exit (Fin.then_exit (Fin.block_here (Fin.go (Tr.seq (Tr.reg0 (cm rfl (co rfl (ok_lenm rfl Tryz.underlying38 (vl rfl)) (co rfl (ki rfl rfl rfl rfl) (cm rfl (Ch.nil (Fin.go (Tr.ret (Fin.ret1 rfl (OutW.bse _ _) rfl ?_))))))))))))))
 · refine bool_eq ?_; unfold edgesB; rw [allI_end hinv_k, Bool.true_and, decide_eq_decide]; omega
end Go.Proofs.YtppeeogffbpcbaaGreat
namespace Go.Proofs.YtppeeogffbpcbaaGreat
open Go Go.RowKit Cp

/-- An estate. -/
structure Est where
  eps : List Ept
  edges : List Edg
  items : List Itm
  deriving DecidableEq
abbrev rowSt (e : Est) : List Pr := [epts e.eps, edgs e.edges, itms e.items]
abbrev zeroSt : Est := ⟨[], [], []⟩
structure Est.fits (e : Est) : Prop where
  eps : ∀ x ∈ e.eps, x.fits ∧ x.small
  items : ∀ x ∈ e.items, x.name.length ≤ maxLen
  le : e.eps.length ≤ 1000000000000
  lg : e.edges.length ≤ 1000000000000
  li : e.items.length ≤ 1000000000000
def epAt (l : List Ept) (i : Nat) : Bool := eptB (l[i]?.getD zeroEp) && (decide (i = 0) || decide (Lib.compareBytes (l[i - 1]?.getD zeroEp).name (l[i]?.getD zeroEp).name = -1))
def estB (e : Est) : Bool := (allI (epAt e.eps) e.eps.length && decide (e.eps.length ≤ 16)) && edgesB e.eps.length e.edges && (e.items.all itemB && decide (e.items.length ≤ 30))
structure EstOk (e : Est) : Prop where
  ep : ∀ j, j < e.eps.length → epAt e.eps j = true
  e16 : e.eps.length ≤ 16
  ed : ∀ j, j < e.edges.length → edgeAt e.eps.length e.edges j = true
  e40 : e.edges.length ≤ 40
  it : e.items.all itemB = true
  i30 : e.items.length ≤ 30
theorem est_iff {e : Est} : estB e = true ↔ EstOk e := by
  unfold estB edgesB
  simp only [Bool.and_eq_true, decide_eq_true_eq, allI_iff]
  exact ⟨fun ⟨⟨⟨h1, h2⟩, h3, h4⟩, h5, h6⟩ => ⟨h1, h2, h3, h4, h5, h6⟩, fun h => ⟨⟨⟨h.ep, h.e16⟩, h.ed, h.e40⟩, h.it, h.i30⟩⟩
theorem est_edges {e : Est} (h : EstOk e) : edgesB e.eps.length e.edges = true := by unfold edgesB; simp only [Bool.and_eq_true, decide_eq_true_eq, allI_iff]; exact ⟨h.ed, h.e40⟩

theorem w_XCk1 {x : Itm} (hx : x.name.length ≤ maxLen) : Fun Tryz.prog 133 [agg (rowIt x)] (bool (!itemB x)) := by
 refine fo Tryz.func133 rfl ⟨rfl, rfl⟩ fun M0 w0 => ?_
 refine ac ?_
 refine ac ?_
 refine co rfl (kc1 (w_LtCheck hx) rfl rfl) ?_
 refine ac ?_
 refine ac ?_
 · refine bool_eq ?_; cases h_ : itemB x <;> simp_all
theorem e_XCk1 : Entry Tryz.prog 133 := ⟨_, Tryz.func133, rfl, rfl⟩
theorem w_IdxIt {α : Type} {g : α → Itm} {l : List α} {p : α → Bool}  : Fun Tryz.prog 183 [slice 5 (l.map fun x => rowIt (g x)), clo Tryz.prog (fun x : α => [agg (rowIt (g x))]) (fun x => bool (p x))] (int (idx p l)) := by
 refine fo Tryz.func183 rfl ⟨rfl, rfl⟩ fun M0 w0 => (Tr.lenm 0 rfl fun hlm_0 => ?_)
 refine ac ?_
 refine ac ?_
 refine Tr.block (Tr.loopw [(0, _), (1, _), (7, _)] (kk3 rfl) (fun k : Nat => [(8, int ((k : Nat) : Int))]) (fun k : Nat => k ≤ (l).length ∧ (∀ j y, j < k → l[j]? = some y → p y = false)) (fun k : Nat => (l).length - k) 0 (⟨Nat.zero_le _, fun j y hj => absurd hj (by omega)⟩) ⟨ke rfl, trivial⟩ ?_)
 rintro k ⟨hle_k, hinv_k⟩
 refine ac ?_
 refine Tr.seq ?_
 refine Tr.cn rfl ?_ ?_ <;> intro h1 q1
 have hk_k : k < (l).length := lt_of_dec h1
 obtain ⟨x, hx_k⟩ := at_ hk_k
 refine ac ?_
 refine ac ?_
 refine ac ?_
 refine co rfl (ok_indexAddr rfl Tryz.underlying39 sz107 (vl rfl) (vl rfl) (by omega) (by exact row_at (by assumption))) ?_
 refine co rfl (ok_loadA rfl agg107 sz107 (vl rfl) rfl rfl) (co rfl (ok_callc x rfl (vl rfl) ⟨ke rfl, trivial⟩) ?_)
 refine ac ?_
 refine Tr.cn rfl ?_ ?_ <;> intro h2 q2
 refine ac ?_
 refine wk1 4 rfl ?_
 refine ac ?_
 · exact int_eq (idx_found hx_k (by assumption) hinv_k)
 refine ac ?_
 refine ac ?_
 exact Fin.fam_same (k + 1) ⟨⟨hk_k, step_no hx_k (by assumption) hinv_k⟩, by omega⟩ ⟨⟨_, rfl, int_succ k⟩, ke rfl, ke rfl, ke rfl, trivial⟩
 have he_k : k = (l).length := by have := ge_of_dec h1; omega
 subst he_k
 refine ac ?_
 refine ac ?_
 refine ac ?_
 · exact int_eq (idx_none hinv_k)
theorem w_IdxEp {α : Type} {g : α → Ept} {l : List α} {p : α → Bool}  : Fun Tryz.prog 100 [slice 9 (l.map fun x => rowEp (g x)), clo Tryz.prog (fun x : α => [agg (rowEp (g x))]) (fun x => bool (p x))] (int (idx p l)) := by
 refine fo Tryz.func100 rfl ⟨rfl, rfl⟩ fun M0 w0 => (Tr.lenm 0 rfl fun hlm_0 => ?_)
 refine ac ?_
 refine ac ?_
 refine Tr.block (Tr.loopw [(0, _), (1, _), (7, _)] (kk3 rfl) (fun k : Nat => [(8, int ((k : Nat) : Int))]) (fun k : Nat => k ≤ (l).length ∧ (∀ j y, j < k → l[j]? = some y → p y = false)) (fun k : Nat => (l).length - k) 0 (⟨Nat.zero_le _, fun j y hj => absurd hj (by omega)⟩) ⟨ke rfl, trivial⟩ ?_)
 rintro k ⟨hle_k, hinv_k⟩
 refine ac ?_
 refine Tr.seq ?_
 refine Tr.cn rfl ?_ ?_ <;> intro h1 q1
 have hk_k : k < (l).length := lt_of_dec h1
 obtain ⟨x, hx_k⟩ := at_ hk_k
 refine ac ?_
 refine ac ?_
 refine ac ?_
 refine co rfl (ok_indexAddr rfl Tryz.underlying37 sz32 (vl rfl) (vl rfl) (by omega) (by exact row_at (by assumption))) ?_
 refine co rfl (ok_loadA rfl agg32 sz32 (vl rfl) rfl rfl) (co rfl (ok_callc x rfl (vl rfl) ⟨ke rfl, trivial⟩) ?_)
 refine ac ?_
 refine Tr.cn rfl ?_ ?_ <;> intro h2 q2
 refine ac ?_
 refine wk1 4 rfl ?_
 refine ac ?_
 · exact int_eq (idx_found hx_k (by assumption) hinv_k)
 refine ac ?_
 refine ac ?_
 exact Fin.fam_same (k + 1) ⟨⟨hk_k, step_no hx_k (by assumption) hinv_k⟩, by omega⟩ ⟨⟨_, rfl, int_succ k⟩, ke rfl, ke rfl, ke rfl, trivial⟩
 have he_k : k = (l).length := by have := ge_of_dec h1; omega
 subst he_k
 refine ac ?_
 refine ac ?_
 refine ac ?_
 · exact int_eq (idx_none hinv_k)
theorem w_HasIt {α : Type} {g : α → Itm} {l : List α} {p : α → Bool}  : Fun Tryz.prog 132 [slice 5 (l.map fun x => rowIt (g x)), clo Tryz.prog (fun x : α => [agg (rowIt (g x))]) (fun x => bool (p x))] (bool (l.any p)) := by
 refine fo Tryz.func132 rfl ⟨rfl, rfl⟩ fun M0 w0 => ?_
 refine ac ?_
 refine ac ?_
 refine co rfl (kc2 (w_IdxIt) rfl rfl rfl) ?_
 refine ac ?_
 refine ac ?_
 · exact bool_eq (idx_any p l)
theorem items_rows {l : List Itm} (h : ∀ x ∈ l, x.name.length ≤ maxLen) : ∃ m : List {x : Itm // x.name.length ≤ maxLen}, (m.map fun x => rowIt x.1) = l.map rowIt ∧ (m.any fun x => !itemB x.1) = !l.all itemB := by
  refine ⟨l.attach.map fun x => ⟨x.1, h x.1 x.2⟩, ?_, ?_⟩
  · rw [List.map_map]; exact List.attach_map_val (f := rowIt) ▸ rfl
  · rw [← any_not, List.any_map]
    show (l.attach.any fun x => !itemB x.1) = _
    rw [Bool.eq_iff_iff]; simp

theorem w_XCheck {e : Est} (hf : e.fits) : Fun Tryz.prog 87 [agg (rowSt e)] (int (if estB e then 0 else 31)) := by
 refine fo Tryz.func87 rfl ⟨rfl, rfl⟩ fun M0 w0 => ?_
 have hl1 := hf.le
 have hl2 := hf.lg
 have hl3 := hf.li
 obtain ⟨mi, hmi1, hmi2⟩ := items_rows hf.items
 refine ac ?_
 refine ac ?_
 refine Tr.block (Tr.loopw [(1, _), (7, _), (8, _)] (kk3 rfl) (fun k : Nat => [(9, int ((k : Nat) : Int))]) (fun k : Nat => k ≤ (e.eps).length ∧ (∀ j, j < k → epAt e.eps j = true)) (fun k : Nat => (e.eps).length - k) 0 (⟨Nat.zero_le _, fun j hj => absurd hj (by omega)⟩) ⟨ke rfl, trivial⟩ ?_)
 rintro k ⟨hle_k, hinv_k⟩
 refine ac ?_
 refine Tr.seq ?_
 refine Tr.cn rfl ?_ ?_ <;> intro h1 q1
 have hk_k : k < (e.eps).length := lt_of_dec h1
 obtain ⟨x, hx_k⟩ := at_ hk_k
 have hg := getD_at (d := zeroEp) hx_k
 have hxf := hf.eps x (List.mem_of_getElem? hx_k)
 refine ac ?_
 refine ao ?_
 refine tp rfl (ok_indexAddr rfl Tryz.underlying37 sz32 (vl rfl) (vl rfl) (by omega) (row_at hx_k)) (tp rfl (ok_loadA rfl agg32 sz32 (vl rfl) rfl rfl) ?_)
 refine TO.alloc rfl rfl (by decide) rfl z32 zo32 (fun b1 => ?_)
 refine tm rfl ?_
 refine sf 0 4 ⟨rfl, rfl, rfl⟩ rfl rfl rfl rfl ?_
 refine ao ?_
 refine ac ?_
 refine co rfl (kc1 (w_ECheck hxf.1) rfl rfl) ?_
 refine ac ?_
 refine Ch.cs 17 rfl ?_ ?_ <;> intro h2 q2
 refine ac ?_
 refine wk5 1 7 8 9 32 rfl ?_
 refine ac ?_
 refine ac ?_
 · refine int_eq (if_neg (fun hv => ?_)).symm; have ok := est_iff.1 hv; (have h_ := ok.ep k (by omega); unfold epAt at h_; rw [hg] at h_; simp_all)
 refine ac ?_
 refine Ch.cs 20 rfl ?_ ?_ <;> intro h3 q3
 have hk0 : 0 < k := by simpa using h3
 obtain ⟨y, hy⟩ := at_ (l := e.eps) (k := k - 1) (by omega)
 have hgy := getD_at (d := zeroEp) hy
 refine ac ?_
 refine cy h3 rfl (ok_indexAddr rfl Tryz.underlying37 sz32 (vl rfl) (vl rfl) (by omega) (by rw [show ((k : Nat) : Int) - 1 = ((k - 1 : Nat) : Int) by omega]; exact row_at hy)) ?_
 refine ac ?_
 refine cy h3 rfl (ok_ges rfl (vl rfl) (vl rfl)) ?_
 refine ac ?_
 refine wk5 1 7 8 9 32 rfl ?_
 refine Tr.cn rfl ?_ ?_ <;> intro h4 q4
 refine ac ?_
 refine ac ?_
 · refine int_eq (if_neg (fun hv => ?_)).symm; have ok := est_iff.1 hv; (have h_ := ok.ep k (by omega); unfold epAt at h_; rw [hg, hgy] at h_; simp_all)
 refine ac ?_
 refine ac ?_
 exact Fin.fam_same (k + 1) ⟨⟨hk_k, allI_step hinv_k (by unfold epAt; rw [hg, hgy]; simp_all)⟩, by omega⟩ ⟨⟨_, rfl, int_succ k⟩, ke rfl, ke rfl, ke rfl, trivial⟩
 have hk00 : ¬ 0 < k := by simpa using h3
 refine ac ?_
 refine wk5 1 7 8 9 32 rfl ?_
 refine ac ?_
 refine ac ?_
 exact Fin.fam_same (k + 1) ⟨⟨hk_k, allI_step hinv_k (by unfold epAt; rw [hg]; simp_all)⟩, by omega⟩ ⟨⟨_, rfl, int_succ k⟩, ke rfl, ke rfl, ke rfl, trivial⟩
 have he_k : k = (e.eps).length := by have := ge_of_dec h1; omega
 subst he_k
 have hinv_e := hinv_k
 refine ac ?_
 refine ac ?_
 refine co rfl (ok_call rfl (w_HasIt (g := fun x : {x : Itm // x.name.length ≤ maxLen} => x.1) (l := mi) (p := fun x => !itemB x.1)) ⟨⟨_, rfl, Pr.le_of_eq (by rw [hmi1])⟩, ⟨_, rfl, fn_le_clo (dom := fun x : {x : Itm // x.name.length ≤ maxLen} => [agg (rowIt x.1)]) (res := fun x => bool (!itemB x.1)) e_XCk1 (fun x => w_XCk1 x.2)⟩, trivial⟩) ?_
 refine ac ?_
 refine ac ?_
 refine Ch.cs 38 rfl ?_ ?_ <;> intro h5 q5
 refine ac ?_
 refine wk1 58 rfl ?_
 refine ac ?_
 refine ac ?_
 · refine int_eq (if_neg (fun hv => ?_)).symm; have ok := est_iff.1 hv; (have o1 := ok.e16; have o2 := ok.e40; have o3 := ok.i30; have o4 := ok.it; have o5 := est_edges ok; simp_all)
 refine ac ?_
 refine Ch.cs 44 rfl ?_ ?_ <;> intro h6 q6
 refine ac ?_
 refine wk1 58 rfl ?_
 refine ac ?_
 refine ac ?_
 · refine int_eq (if_neg (fun hv => ?_)).symm; have ok := est_iff.1 hv; (have o1 := ok.e16; have o2 := ok.e40; have o3 := ok.i30; have o4 := ok.it; have o5 := est_edges ok; omega)
 refine ac ?_
 refine Ch.cs 50 rfl ?_ ?_ <;> intro h7 q7
 refine ac ?_
 refine wk1 58 rfl ?_
 refine ac ?_
 refine ac ?_
 · refine int_eq (if_neg (fun hv => ?_)).symm; have ok := est_iff.1 hv; (have o1 := ok.e16; have o2 := ok.e40; have o3 := ok.i30; have o4 := ok.it; have o5 := est_edges ok; omega)
 refine ac ?_
 refine cy h7 rfl (kc2 (w_linked (l := e.edges) (n := e.eps.length)) rfl rfl rfl) ?_
 refine ac ?_
 refine wk1 58 rfl ?_
 refine Tr.cn rfl ?_ ?_ <;> intro h8 q8
 refine ac ?_
 refine ac ?_
 · refine int_eq (if_neg (fun hv => ?_)).symm; have ok := est_iff.1 hv; (have o1 := ok.e16; have o2 := ok.e40; have o3 := ok.i30; have o4 := ok.it; have o5 := est_edges ok; simp_all)
 refine ac ?_
 refine ac ?_
 refine ac ?_
 · refine int_eq (if_pos ?_).symm; unfold estB; simp_all [allI_iff]; omega
end Go.Proofs.YtppeeogffbpcbaaGreat
namespace Go.Proofs.YtppeeogffbpcbaaGreat
open Go Go.RowKit Cp
theorem eqv80 {d : Nat} {w : World} {x0 y0 : Int} {x1 y1 : Int} : (Op.equalIn (d + 2) 80 (.agg #[.int .i64 x0, .int .i64 x1]) (.agg #[.int .i64 y0, .int .i64 y1])).run Tryz.prog w = .ok (decide (x0 = y0 ∧ x1 = y1)) w := by
  have h := eqS (w := w) (d := d + 1) (xs := #[.int .i64 x0, .int .i64 x1]) (ys := #[.int .i64 y0, .int .i64 y1]) Tryz.underlying80 (by kernel_rfl) (eqF_cons (by decide) (part_leaf one3 rfl) (part_leaf one3 rfl) (eq_intL (d := d + 0) Tryz.underlying3) (eqF_cons (by decide) (part_leaf one3 rfl) (part_leaf one3 rfl) (eq_intL (d := d + 0) Tryz.underlying3) (eqF_nil)))
  refine h.trans (congrArg (fun b => Result.ok b w) ?_)
  rw [Bool.eq_iff_iff]; simp [and_assoc]
theorem ok_ne80 {E : Env} {I : Asn} {o : Oper} {u : TypeId} {x y : Operand} {x0 y0 : Int} {x1 y1 : Int} (ho : o.op = .binOp .neq 80 x y u) (hx : VL E x (agg [is (.int .i64 x0), is (.int .i64 x1)])) (hy : VL E y (agg [is (.int .i64 y0), is (.int .i64 y1)])) : OpOK Tryz.prog I o E (bool (!decide (x0 = y0 ∧ x1 = y1))) :=
  ok_neagg [.int .i64 x0, .int .i64 x1] [.int .i64 y0, .int .i64 y1] ho hx hy (by kernel_rfl) (fun w => by rw [show Op.equal 80 _ _ = Op.equalIn (9998 + 2) 80 _ _ from rfl]; exact eqv80)
theorem eqv152 {d : Nat} {w : World} {x0 y0 : Int} {x1 y1 : Int} {x2 y2 : Int} : (Op.equalIn (d + 3) 152 (.agg #[.int .i64 x0, .int .i64 x1, .int .i64 x2]) (.agg #[.int .i64 y0, .int .i64 y1, .int .i64 y2])).run Tryz.prog w = .ok (decide (x0 = y0 ∧ x1 = y1 ∧ x2 = y2)) w := by
  have h := eqS (w := w) (d := d + 2) (xs := #[.int .i64 x0, .int .i64 x1, .int .i64 x2]) (ys := #[.int .i64 y0, .int .i64 y1, .int .i64 y2]) Tryz.underlying152 (by kernel_rfl) (eqF_cons (by decide) (part_agg agg24 sz24 rfl) (part_agg agg24 sz24 rfl) (eqv24 (d := d + 0) (w := w)) (eqF_cons (by decide) (part_leaf one3 rfl) (part_leaf one3 rfl) (eq_intL (d := d + 1) Tryz.underlying3) (eqF_nil)))
  refine h.trans (congrArg (fun b => Result.ok b w) ?_)
  rw [Bool.eq_iff_iff]; simp [and_assoc]
theorem ok_ne152 {E : Env} {I : Asn} {o : Oper} {u : TypeId} {x y : Operand} {x0 y0 : Int} {x1 y1 : Int} {x2 y2 : Int} (ho : o.op = .binOp .neq 152 x y u) (hx : VL E x (agg [is (.int .i64 x0), is (.int .i64 x1), is (.int .i64 x2)])) (hy : VL E y (agg [is (.int .i64 y0), is (.int .i64 y1), is (.int .i64 y2)])) : OpOK Tryz.prog I o E (bool (!decide (x0 = y0 ∧ x1 = y1 ∧ x2 = y2))) :=
  ok_neagg [.int .i64 x0, .int .i64 x1, .int .i64 x2] [.int .i64 y0, .int .i64 y1, .int .i64 y2] ho hx hy (by kernel_rfl) (fun w => by rw [show Op.equal 152 _ _ = Op.equalIn (9997 + 3) 152 _ _ from rfl]; exact eqv152)
theorem w_SEqG {a b : List (Edg)}  : Fun Tryz.prog 92 [edgs a, edgs b] (bool (decide (a = b))) := by
 refine fo Tryz.func92 rfl ⟨rfl, rfl⟩ fun M0 w0 => (Tr.lenm 0 rfl fun hlm_0 => (Tr.lenm 1 rfl fun hlm_1 => ?_))
 refine ac ?_
 refine ac ?_
 refine Tr.cn rfl ?_ ?_ <;> intro h1 q1
 have hne : ¬ a.length = b.length := by simp_all; omega
 refine ac ?_
 refine ac ?_
 · refine bool_eq ?_; symm; rw [decide_eq_false_iff_not]; rintro rfl; exact hne rfl
 have hll : a.length = b.length := by simp_all; omega
 refine ac ?_
 refine ac ?_
 refine Tr.block (Tr.loopw [(0, _), (1, _), (12, _)] (kk3 rfl) (fun k : Nat => [(13, int ((k : Nat) : Int))]) (fun k : Nat => k ≤ (a).length ∧ (a.take k = b.take k)) (fun k : Nat => (a).length - k) 0 (⟨Nat.zero_le _, rfl⟩) ⟨ke rfl, trivial⟩ ?_)
 rintro k ⟨hle_k, hinv_k⟩
 refine ac ?_
 refine Tr.seq ?_
 refine Tr.cn rfl ?_ ?_ <;> intro h2 q2
 have hk_k : k < (a).length := lt_of_dec h2
 obtain ⟨x, hx_k⟩ := at_ hk_k
 obtain ⟨y, hy⟩ := at_ (l := b) (k := k) (by omega)
 refine ac ?_
 refine ac ?_
 refine ac ?_
 refine co rfl (ok_indexAddr rfl Tryz.underlying38 sz80 (vl rfl) (vl rfl) (by omega) (row_at hx_k)) ?_
 refine ac ?_
 refine co rfl (ok_indexAddr rfl Tryz.underlying38 sz80 (vl rfl) (vl rfl) (by omega) (row_at hy)) (co rfl (ok_loadA rfl agg80 sz80 (vl rfl) rfl rfl) (co rfl (ok_ne80 rfl (vl rfl) (vl rfl)) ?_))
 refine ac ?_
 refine wk5 0 1 12 13 24 rfl ?_
 refine Tr.cn rfl ?_ ?_ <;> intro h3 q3
 refine ac ?_
 refine ac ?_
 · refine bool_eq ?_; symm; rw [decide_eq_false_iff_not]; refine sameN hx_k hy ?_; rintro rfl; simp_all
 refine ac ?_
 refine ac ?_
 exact Fin.fam_same (k + 1) ⟨⟨hk_k, sameY hx_k hy hinv_k (by cases x; cases y; simp_all)⟩, by omega⟩ ⟨⟨_, rfl, int_succ k⟩, ke rfl, ke rfl, ke rfl, trivial⟩
 have he_k : k = (a).length := by have := ge_of_dec h2; omega
 subst he_k
 refine ac ?_
 refine ac ?_
 refine ac ?_
 · refine bool_eq ?_; symm; rw [decide_eq_true_eq]; exact sameA hll hinv_k
theorem w_SEqL {a b : List (Lnk)}  : Fun Tryz.prog 140 [lnks a, lnks b] (bool (decide (a = b))) := by
 refine fo Tryz.func140 rfl ⟨rfl, rfl⟩ fun M0 w0 => (Tr.lenm 0 rfl fun hlm_0 => (Tr.lenm 1 rfl fun hlm_1 => ?_))
 refine ac ?_
 refine ac ?_
 refine Tr.cn rfl ?_ ?_ <;> intro h1 q1
 have hne : ¬ a.length = b.length := by simp_all; omega
 refine ac ?_
 refine ac ?_
 · refine bool_eq ?_; symm; rw [decide_eq_false_iff_not]; rintro rfl; exact hne rfl
 have hll : a.length = b.length := by simp_all; omega
 refine ac ?_
 refine ac ?_
 refine Tr.block (Tr.loopw [(0, _), (1, _), (12, _)] (kk3 rfl) (fun k : Nat => [(13, int ((k : Nat) : Int))]) (fun k : Nat => k ≤ (a).length ∧ (a.take k = b.take k)) (fun k : Nat => (a).length - k) 0 (⟨Nat.zero_le _, rfl⟩) ⟨ke rfl, trivial⟩ ?_)
 rintro k ⟨hle_k, hinv_k⟩
 refine ac ?_
 refine Tr.seq ?_
 refine Tr.cn rfl ?_ ?_ <;> intro h2 q2
 have hk_k : k < (a).length := lt_of_dec h2
 obtain ⟨x, hx_k⟩ := at_ hk_k
 obtain ⟨y, hy⟩ := at_ (l := b) (k := k) (by omega)
 refine ac ?_
 refine ac ?_
 refine ac ?_
 refine co rfl (ok_indexAddr rfl Tryz.underlying105 sz152 (vl rfl) (vl rfl) (by omega) (row_at hx_k)) ?_
 refine ac ?_
 refine co rfl (ok_indexAddr rfl Tryz.underlying105 sz152 (vl rfl) (vl rfl) (by omega) (row_at hy)) (co rfl (ok_loadA rfl agg152 sz152 (vl rfl) rfl rfl) (co rfl (ok_ne152 rfl (vl rfl) (vl rfl)) ?_))
 refine ac ?_
 refine wk5 0 1 12 13 24 rfl ?_
 refine Tr.cn rfl ?_ ?_ <;> intro h3 q3
 refine ac ?_
 refine ac ?_
 · refine bool_eq ?_; symm; rw [decide_eq_false_iff_not]; refine sameN hx_k hy ?_; rintro rfl; simp_all
 refine ac ?_
 refine ac ?_
 exact Fin.fam_same (k + 1) ⟨⟨hk_k, sameY hx_k hy hinv_k (by cases x; cases y; simp_all)⟩, by omega⟩ ⟨⟨_, rfl, int_succ k⟩, ke rfl, ke rfl, ke rfl, trivial⟩
 have he_k : k = (a).length := by have := ge_of_dec h2; omega
 subst he_k
 refine ac ?_
 refine ac ?_
 refine ac ?_
 · refine bool_eq ?_; symm; rw [decide_eq_true_eq]; exact sameA hll hinv_k
theorem w_sameItem {a b : Itm}  : Fun Tryz.prog 94 [agg (rowIt a), agg (rowIt b)] (bool (decide (a = b))) := by
 refine fo Tryz.func94 rfl ⟨rfl, rfl⟩ fun M0 w0 => ?_
 refine ac ?_
 refine ac ?_
 refine Ch.cs 10 rfl ?_ ?_ <;> intro h1 q1
 refine ac ?_
 refine Ch.cs 17 rfl ?_ ?_ <;> intro h2 q2
 refine ac ?_
 refine Ch.cs 24 rfl ?_ ?_ <;> intro h3 q3
 refine ac ?_
 refine Ch.cs 31 rfl ?_ ?_ <;> intro h4 q4
 refine ac ?_
 refine cy h4 rfl (kc2 (w_SEqL) rfl rfl rfl) ?_
 refine ac ?_
 refine wk1 4 rfl ?_
 refine ac ?_
 · refine bool_eq ?_; cases a; cases b; simp_all [Bool.beq_eq_decide_eq]
 refine ac ?_
 refine wk1 4 rfl ?_
 refine ac ?_
 · refine bool_eq ?_; cases a; cases b; simp_all [Bool.beq_eq_decide_eq]
 refine ac ?_
 refine wk1 4 rfl ?_
 refine ac ?_
 · refine bool_eq ?_; cases a; cases b; simp_all [Bool.beq_eq_decide_eq]
 refine ac ?_
 refine wk1 4 rfl ?_
 refine ac ?_
 · refine bool_eq ?_; cases a; cases b; simp_all [Bool.beq_eq_decide_eq]
 refine ac ?_
 refine wk1 4 rfl ?_
 refine ac ?_
 · refine bool_eq ?_; cases a; cases b; simp_all [Bool.beq_eq_decide_eq]
theorem e_sameItem : Entry Tryz.prog 94 := ⟨_, Tryz.func94, rfl, rfl⟩
theorem w_EqFIt {a b : List Itm}  : Fun Tryz.prog 93 [itms a, itms b, clo Tryz.prog (fun p : Itm × Itm => [agg (rowIt p.1), agg (rowIt p.2)]) (fun p => bool (decide (p.1 = p.2)))] (bool (decide (a = b))) := by
 refine fo Tryz.func93 rfl ⟨rfl, rfl⟩ fun M0 w0 => (Tr.lenm 0 rfl fun hlm_0 => (Tr.lenm 1 rfl fun hlm_1 => ?_))
 refine ac ?_
 refine ac ?_
 refine Tr.cn rfl ?_ ?_ <;> intro h1 q1
 have hne : ¬ a.length = b.length := by simp_all; omega
 refine ac ?_
 refine ac ?_
 · refine bool_eq ?_; symm; rw [decide_eq_false_iff_not]; rintro rfl; exact hne rfl
 have hll : a.length = b.length := by simp_all; omega
 refine ac ?_
 refine ac ?_
 refine Tr.block (Tr.loopw [(1, _), (2, _), (15, _), (16, _)] (kk4 rfl) (fun k : Nat => [(17, int ((k : Nat) : Int))]) (fun k : Nat => k ≤ (a).length ∧ (a.take k = b.take k)) (fun k : Nat => (a).length - k) 0 (⟨Nat.zero_le _, rfl⟩) ⟨ke rfl, trivial⟩ ?_)
 rintro k ⟨hle_k, hinv_k⟩
 refine ac ?_
 refine Tr.seq ?_
 refine Tr.cn rfl ?_ ?_ <;> intro h2 q2
 have hk_k : k < (a).length := lt_of_dec h2
 obtain ⟨x, hx_k⟩ := at_ hk_k
 obtain ⟨y, hy⟩ := at_ (l := b) (k := k) (by omega)
 refine ac ?_
 refine ao ?_
 refine tp rfl (ok_indexAddr rfl Tryz.underlying39 sz107 (vl rfl) (vl rfl) (by omega) (row_at hx_k)) (tp rfl (ok_loadA rfl agg107 sz107 (vl rfl) rfl rfl) ?_)
 refine TO.alloc rfl rfl (by decide) rfl z107 zo107 (fun b1 => ?_)
 refine tm rfl ?_
 refine sf 0 8 ⟨rfl, rfl, rfl⟩ rfl rfl rfl rfl ?_
 refine ao ?_
 refine ao ?_
 refine tp rfl (ok_indexAddr rfl Tryz.underlying39 sz107 (vl rfl) (vl rfl) (by omega) (row_at hy)) (tp rfl (ok_loadA rfl agg107 sz107 (vl rfl) rfl rfl) ?_)
 refine TO.alloc rfl rfl (by decide) rfl z107 zo107 (fun b2 => ?_)
 refine sf 0 9 ⟨rfl, rfl, rfl⟩ rfl rfl rfl rfl ?_
 refine ao ?_
 refine wk7 1 2 8 9 15 16 17 rfl ?_
 refine ac ?_
 refine co rfl (ok_callc (x, y) rfl (vl rfl) ⟨ke rfl, ke rfl, trivial⟩) ?_
 refine ac ?_
 refine Tr.cn rfl ?_ ?_ <;> intro h3 q3
 refine ac ?_
 refine ac ?_
 · refine bool_eq ?_; symm; rw [decide_eq_false_iff_not]; refine sameN hx_k hy ?_; rintro rfl; simp_all
 refine ac ?_
 refine ac ?_
 exact Fin.fam_same (k + 1) ⟨⟨hk_k, sameY hx_k hy hinv_k (by simp_all)⟩, by omega⟩ ⟨⟨_, rfl, int_succ k⟩, ke rfl, ke rfl, ke rfl, ke rfl, trivial⟩
 have he_k : k = (a).length := by have := ge_of_dec h2; omega
 subst he_k
 refine ac ?_
 refine ac ?_
 refine ac ?_
 · refine bool_eq ?_; symm; rw [decide_eq_true_eq]; exact sameA hll hinv_k
theorem w_EsSame {a b : Est}  : Fun Tryz.prog 32 [agg (rowSt a), agg (rowSt b)] (bool (decide (a = b))) := by
 refine fo Tryz.func32 rfl ⟨rfl, rfl⟩ fun M0 w0 => ?_
 refine ac ?_
 refine ac ?_
 refine co rfl (ok_call rfl (w_EqFE) ⟨ke rfl, ke rfl, ⟨_, rfl, fn_le_clo (dom := fun p : Ept × Ept => [agg (rowEp p.1), agg (rowEp p.2)]) (res := fun p => bool (decide (p.1 = p.2))) e_ESame (fun p => w_ESame (a := p.1) (b := p.2))⟩, trivial⟩) ?_
 refine cm rfl ?_
 refine Ch.cs 10 rfl ?_ ?_ <;> intro h1 q1
 refine ac ?_
 refine cy h1 rfl (kc2 (w_SEqG) rfl rfl rfl) ?_
 refine ac ?_
 refine Ch.cs 17 rfl ?_ ?_ <;> intro h2 q2
 refine ac ?_
 refine cy h2 rfl (ok_call rfl (w_EqFIt) ⟨ke rfl, ke rfl, ⟨_, rfl, fn_le_clo (dom := fun p : Itm × Itm => [agg (rowIt p.1), agg (rowIt p.2)]) (res := fun p => bool (decide (p.1 = p.2))) e_sameItem (fun p => w_sameItem (a := p.1) (b := p.2))⟩, trivial⟩) ?_
 refine ac ?_
 refine wk1 4 rfl ?_
 refine ac ?_
 · refine bool_eq ?_; cases a; cases b; simp_all [Bool.beq_eq_decide_eq]
 refine ac ?_
 refine wk1 4 rfl ?_
 refine ac ?_
 · refine bool_eq ?_; cases a; cases b; simp_all [Bool.beq_eq_decide_eq]
 refine ac ?_
 refine wk1 4 rfl ?_
 refine ac ?_
 · refine bool_eq ?_; cases a; cases b; simp_all [Bool.beq_eq_decide_eq]
def nameIs (n : List UInt8) (x : Ept) : Bool := decide (x.name = n)
def idxN (n : List UInt8) (l : List Ept) : Int := idx (nameIs n) l

theorem w_EsIdx1 {x : Ept} {n : List UInt8}  : Fun Tryz.prog 101 [agg (rowEp x), ref [str n]] (bool (nameIs n x)) := by
 refine fo Tryz.func101 rfl ⟨rfl, rfl⟩ fun M0 w0 => ?_
 refine ac ?_
 refine ac ?_
 refine ac ?_
 · exact Pr.le_refl _
theorem e_EsIdx1 : Entry Tryz.prog 101 := ⟨_, Tryz.func101, rfl, rfl⟩
theorem w_EsIndex {e : Est} {n : List UInt8}  : Fun Tryz.prog 44 [agg (rowSt e), str n] (tup [int (max (idxN n e.eps) 0), bool (decide (0 ≤ idxN n e.eps))]) := by
 refine fo Tryz.func44 rfl ⟨rfl, rfl⟩ fun M0 w0 => ?_
 refine ac ?_
 refine ac ?_
 refine co rfl (ok_call rfl (w_IdxEp (g := fun x : Ept => x) (l := e.eps) (p := nameIs n)) ⟨ke rfl, ⟨_, rfl, fn_le_clo (dom := fun x : Ept => [agg (rowEp x)]) (res := fun x => bool (nameIs n x)) e_EsIdx1 (fun x => w_EsIdx1 (n := n) (x := x))⟩, trivial⟩) ?_
 refine ac ?_
 refine ac ?_
 refine co rfl (ok_max rfl (vl rfl) (vl rfl)) ?_
 refine ac ?_
 refine wk2 4 5 rfl (Tr.ret (Fin.ret2 rfl (OutW.bse _ _) rfl ?_ rfl ?_))
 · exact Pr.le_refl _
 · exact bool_eq (by unfold idxN; simp)
def setAt (n : Int) (l : List Int) (i : Nat) : Bool := decide (0 ≤ l[i]?.getD 0) && decide (l[i]?.getD 0 < n) && (decide (i = 0) || decide (l[i - 1]?.getD 0 < l[i]?.getD 0))
/-- A set: ascending, below n. -/
def setB (n : Int) (l : List Int) : Bool := allI (setAt n l) l.length

theorem w_mvHas {l : List Int} {v : Int}  : Fun Tryz.prog 47 [ints l, int v] (bool (l.any fun x => v == x)) := by
 refine fo Tryz.func47 rfl ⟨rfl, rfl⟩ fun M0 w0 => (Tr.lenm 0 rfl fun hlm_0 => ?_)
 refine ac ?_
 refine ac ?_
 refine Tr.block (Tr.loopw [(1, _), (7, _), (8, _)] (kk3 rfl) (fun k : Nat => [(9, int ((k : Nat) : Int))]) (fun k : Nat => k ≤ (l).length ∧ ((l.take k).any (fun x => v == x) = false)) (fun k : Nat => (l).length - k) 0 (⟨Nat.zero_le _, rfl⟩) ⟨ke rfl, trivial⟩ ?_)
 rintro k ⟨hle_k, hinv_k⟩
 refine ac ?_
 refine Tr.seq ?_
 refine Tr.cn rfl ?_ ?_ <;> intro h1 q1
 have hk_k : k < (l).length := lt_of_dec h1
 obtain ⟨x, hx_k⟩ := at_ hk_k
 refine ac ?_
 refine Tr.seq (Tr.block (Tr.seq (Tr.reg0 (co rfl (ok_indexAddr rfl Tryz.underlying22 sz3 (vl rfl) (vl rfl) (by omega) (row_at hx_k)) ?_))))
 refine ac ?_
 refine ac ?_
 refine Tr.cn rfl ?_ ?_ <;> intro h2 q2
 refine ac ?_
 refine ac ?_
 · refine bool_eq ?_; symm; rw [List.any_eq_true]; exact ⟨_, List.mem_of_getElem? hx_k, by simp_all⟩
 refine ac ?_
 refine ac ?_
 exact Fin.fam_same (k + 1) ⟨⟨hk_k, (by rw [List.take_add_one, hx_k, List.any_append, hinv_k]; simp; omega)⟩, by omega⟩ ⟨⟨_, rfl, int_succ k⟩, ke rfl, ke rfl, ke rfl, trivial⟩
 have he_k : k = (l).length := by have := ge_of_dec h1; omega
 subst he_k
 refine ac ?_
 refine ac ?_
 refine ac ?_
 · refine bool_eq ?_; rw [List.take_length] at hinv_k; exact hinv_k.symm
end Go.Proofs.YtppeeogffbpcbaaGreat
namespace Go.Proofs.YtppeeogffbpcbaaGreat
open Go Go.RowKit Cp

/-- An estate of some size. -/
structure Est.sz (e : Est) (n : Nat) : Prop where
  eps : ∀ x ∈ e.eps, x.sz n
  items : ∀ x ∈ e.items, x.name.length ≤ maxLen ∧ x.links.length ≤ 1000000
  le : e.eps.length ≤ 1000000
  lg : e.edges.length ≤ 1000000
  li : e.items.length ≤ 1000000
theorem Est.sz.fits {e : Est} {n : Nat} (h : e.sz n) (hn : n ≤ 1000000) : e.fits :=
  ⟨fun x hx => ⟨(h.eps x hx).fits, (h.eps x hx).small hn⟩, fun x hx => (h.items x hx).1, by have := h.le; omega, by have := h.lg; omega, by have := h.li; omega⟩
theorem snocT {β γ : Type} {f : β → γ} {l : List β} {k : Nat} {x : β} (h : l[k]? = some x) : (l.take k).map f ++ [f x] = (l.take (k + 1)).map f := by rw [List.take_add_one, h, List.map_append]; rfl

theorem w_EsCopyV {e : Est} {n : Nat} (hz : e.sz n) (hn : n ≤ 1000000) : FunV Tryz.prog 88 [agg (rowSt e)] (fun x => agg [is x, edgs e.edges, itms e.items]) (fun x => [oweRes 32 9 (e.eps.map rowEp) x]) := by
 refine FunV.of Tryz.func88 rfl rfl (by exact Nat.le_of_ble_eq_true rfl) fun M0 w0 S rs M1 w1 => ?_
 have hl1 := hz.le
 have hl2 := hz.lg
 have hl3 := hz.li
 refine Tr.seq (Tr.regT (tp rfl (ok_box rfl (VL.le (vl rfl) (agg_cellsP _))) ?_))
 refine TO.alloc rfl rfl (by decide) rfl z41 zo41 (fun b1 => ?_)
 refine ao ?_
 refine ao ?_
 refine tp rfl (ok_appF rfl Tryz.underlying38 sz80 by80 z80 rfl (by decide) (vl rfl) (vl rfl) (by simp only [List.length_map, List.length_append, List.length_cons, List.length_nil, List.length_take]; unfold maxLen; omega) (by simp only [List.length_map, List.length_append, List.length_cons, List.length_nil, List.length_take]; omega)) ?_
 refine tp rfl (ok_build (rows := [(1, [_])]) rfl bl41 zo41 ⟨⟨rfl, (VL.le (vl rfl) (one_cellsP _))⟩, trivial⟩ rfl) ?_
 refine TO.alloc rfl rfl (by decide) rfl z41 zo41 (fun b2 => ?_)
 refine TO.store_all 0 rfl rfl rfl (vl rfl) (VL.le (vl rfl) (agg_cellsP _)) rfl sz41 rfl rfl ?_
 refine ao ?_
 refine ac ?_
 refine wk6 1 2 3 14 15 16 rfl (Tr.block (Tr.reC 0 [andIs (.slice none 0 0) (lens ((e.eps.take 0).map rowEp).length), edgs e.edges, is (.slice none 0 0)] rfl ⟨lens_nil rfl, Pr.le_of_eq rfl, Pr.le_refl _, trivial⟩ (Tr.addown 32 9 (Tr.loopV1 [(1, _), (2, _), (3, _), (14, _), (15, _)] ⟨ke rfl, ke rfl, ke rfl, ke rfl, ke rfl, trivial⟩ (fun k v => [(16, int ((k : Nat) : Int))]) (fun k v => Hp M0 w0 S (ownRes 32 9 ((e.eps.take k).map rowEp) v :: cellsRes true b2 41 [andIs v (lens ((e.eps.take k).map rowEp).length), edgs e.edges, is (.slice none 0 0)] :: cellsRes true b1 41 (([.slice none 0 0, .slice none 0 0, .slice none 0 0] : List Value).map is) :: extRes M1 w1 :: rs)) (fun k : Nat => k ≤ (e.eps).length) (fun k : Nat => (e.eps).length - k) 0 (.slice none 0 0) (Nat.zero_le _) ⟨ke rfl, trivial⟩ (fun _ _ h => h) ?_))))
 rintro k v hle_k
 refine ac ?_
 refine Tr.seq ?_
 refine Tr.cn rfl ?_ ?_ <;> intro h1 q1
 have hk_k : k < (e.eps).length := lt_of_dec h1
 obtain ⟨x, hx_k⟩ := at_ hk_k
 have hxs := (hz.eps x (List.mem_of_getElem? hx_k)).small hn
 refine ac ?_
 refine Tr.seq (Tr.block (Tr.seq (Tr.regT (tp rfl (ok_indexAddr rfl Tryz.underlying37 sz32 (vl rfl) (vl rfl) (by omega) (by exact row_at (by assumption))) ?_))))
 refine tp rfl (ok_loadA rfl agg32 sz32 (vl rfl) rfl rfl) ?_
 refine TO.alloc rfl rfl (by decide) rfl z32 zo32 (fun b3 => ?_)
 refine sf 0 5 ⟨rfl, rfl, rfl⟩ rfl rfl rfl rfl ?_
 refine ao ?_
 refine Tr.pad (Tr.rx ?_)
 refine ax ?_
 refine xo rfl (fun _ => kc1 (w_CopyEz hxs) rfl rfl) (xo rfl (fun _ => ok_buildSlice (xs := [.tmp 23]) (rows := [_]) rfl rfl Tryz.underlying37 sz32 z32 rfl (by decide) ⟨⟨(by exact rfl), (VL.le (vl rfl) (agg_cellsP _))⟩, trivial⟩ (by decide)) ?_)
 refine Cx.ef 1 rfl rfl (by decide) (ef_appmut rfl rfl (by decide) rfl Tryz.underlying37 sz32 by32 z32 rfl (by decide) (by decide) (vl rfl) ⟨_, rfl, full_le _ _⟩ (map_rows fun _ => rfl) (Nat.zero_lt_succ _) (by simp only [List.length_map, List.length_take, List.length_cons, List.length_nil]; unfold maxLen; omega) (by simp only [List.length_map, List.length_take, List.length_cons, List.length_nil]; omega)) ?_
 refine xo rfl (fun _ => okp_fieldAddr rfl fo41_0 (vl rfl)) (Cx.ef0 2 rfl rfl (ef_storeS rfl rfl rfl (vl rfl) rfl sz37 (by exact Nat.le_of_ble_eq_true rfl)) ?_)
 refine Cx.nil ⟨by kernel_rfl, ?_⟩
 refine FinX.open2 1 2 25 rfl rfl (by decide) rfl (fun v1 => ?_)
 refine FinX.done al5 ?_
 refine ac ?_
 refine Tr.drop 0 (wk6 1 2 3 14 15 16 rfl ?_)
 refine ac ?_
 refine Fin.reC 1 [andIs v1 (lens ((e.eps.take (k + 1)).map rowEp).length), edgs e.edges, is (.slice none 0 0)] rfl ⟨lens_le (by simp only [List.length_map, List.length_append, List.length_take, List.length_cons, List.length_nil]; omega), Pr.le_refl _, Pr.le_refl _, trivial⟩ ?_
 rw [snocT (f := rowEp) hx_k]
 exact Fin.famV1 (k + 1) v1 (⟨hk_k, by omega⟩) ⟨⟨_, rfl, int_succ k⟩, ke rfl, ke rfl, ke rfl, ke rfl, ke rfl, trivial⟩ (fun _ _ h => h)
 have he_k : k = (e.eps).length := by have := ge_of_dec h1; omega
 subst he_k
 rw [List.take_length]
 refine ac ?_
 refine ac ?_
 refine Tr.block (Tr.reC 1 [andIs v (lens (e.eps.map rowEp).length), edgs e.edges, andIs (.slice none 0 0) (itms (e.items.take 0))] rfl ⟨Pr.le_refl _, Pr.le_refl _, own_nil rfl, trivial⟩ (Tr.addnil 107 5 (Tr.loopV1 [(2, _), (3, _), (29, _), (30, _)] ⟨ke rfl, ke rfl, ke rfl, ke rfl, trivial⟩ (fun m u => [(31, int ((m : Nat) : Int))]) (fun m u => Hp M0 w0 S (appRes 107 5 u :: ownRes 32 9 (e.eps.map rowEp) v :: cellsRes true b2 41 [andIs v (lens (e.eps.map rowEp).length), edgs e.edges, andIs u (itms (e.items.take m))] :: cellsRes true b1 41 (([.slice none 0 0, .slice none 0 0, .slice none 0 0] : List Value).map is) :: extRes M1 w1 :: rs)) (fun m : Nat => m ≤ (e.items).length) (fun m : Nat => (e.items).length - m) 0 (.slice none 0 0) (Nat.zero_le _) ⟨ke rfl, trivial⟩ (fun _ _ h => h) ?_)))
 rintro m u hle_m
 refine ac ?_
 refine Tr.seq ?_
 refine Tr.cn rfl ?_ ?_ <;> intro h2 q2
 have hk_m : m < (e.items).length := lt_of_dec h2
 obtain ⟨y, hx_m⟩ := at_ hk_m
 have hyl := (hz.items y (List.mem_of_getElem? hx_m)).2
 refine ac ?_
 refine Tr.seq (Tr.block (Tr.seq (Tr.regT (tp rfl (ok_indexAddr rfl Tryz.underlying39 sz107 (vl rfl) (vl rfl) (by omega) (by exact row_at (by assumption))) ?_))))
 refine tp rfl (ok_loadA rfl agg107 sz107 (vl rfl) rfl rfl) ?_
 refine TO.alloc rfl rfl (by decide) rfl z107 zo107 (fun b4 => ?_)
 refine TO.store_all 0 rfl rfl rfl (vl rfl) (VL.le (vl rfl) (agg_cellsP _)) rfl sz107 rfl rfl ?_
 refine ao ?_
 refine ao ?_
 refine tp rfl (ok_appF rfl Tryz.underlying105 sz152 by152 z152 rfl (by decide) (vl rfl) (vl rfl) (by simp only [List.length_map, List.length_append, List.length_cons, List.length_nil, List.length_take]; unfold maxLen; omega) (by simp only [List.length_map, List.length_append, List.length_cons, List.length_nil, List.length_take]; omega)) ?_
 refine tp rfl (okp_fieldAddr rfl fo107_3 (vl rfl)) (TO.ef0 0 rfl rfl (ef_store rfl rfl (vl rfl) (VL.le (vl rfl) (one_cellsP _)) sz105 rfl (by exact Nat.le_of_ble_eq_true rfl) rfl) ?_)
 refine ao ?_
 refine wk6 2 3 7 29 30 31 rfl ?_
 refine ao ?_
 refine TO.efs 1 rfl rfl (by decide) (ef_append rfl rfl (by decide) rfl Tryz.underlying39 sz107 by107 z107 rfl (by decide) ⟨_, rfl, andIs_le _ _⟩ ⟨_, rfl, full_le _ _⟩ (by simp only [List.length_map, List.length_append, List.length_cons, List.length_nil, List.length_take]; unfold maxLen; omega) (by simp only [List.length_map, List.length_append, List.length_cons, List.length_nil, List.length_take]; omega) (appR_is (by exact List.Mem.head _) ⟨_, rfl, andIs_is _ _⟩)) (fun v2 => ?_)
 refine tp rfl (okp_fieldAddr rfl fo41_2 (vl rfl)) (TO.ef0 3 rfl rfl (ef_store rfl rfl (vl rfl) (VL.le (vl rfl) (one_cellsP _)) sz39 rfl (by exact Nat.le_of_ble_eq_true rfl) rfl) ?_)
 refine ao ?_
 refine Tr.drop 0 ?_
 refine ac ?_
 refine Fin.reC 2 [andIs v (lens (e.eps.map rowEp).length), edgs e.edges, andIs v2 (itms (e.items.take (m + 1)))] rfl ⟨Pr.le_refl _, Pr.le_refl _, own_le (snocT (f := rowIt) hx_m), trivial⟩ (Fin.famV1 (m + 1) v2 (⟨hk_m, by omega⟩) ⟨⟨_, rfl, int_succ m⟩, ke rfl, ke rfl, ke rfl, ke rfl, trivial⟩ (fun _ _ h => h))
 have he_m : m = (e.items).length := by have := ge_of_dec h2; omega
 subst he_m
 refine ac ?_
 refine ao ?_
 refine TO.store_all 3 rfl rfl rfl (vl rfl) (VL.le (vl rfl) (agg_cellsP _)) rfl sz41 rfl rfl ?_
 refine ao ?_
 refine Tr.ret (Fin.toOwe 1 rfl (Fin.drop 0 (Fin.drop 1 (Fin.swap01 (Fin.retV v [_] rfl (RVal.cell 0 rfl rfl agg41 sz41 rfl (Pr.le_refl _)) ?_ (List.Perm.refl _))))))
 · exact agg_le ⟨andIs_is _ _, Pr.le_refl _, Pr.le_trans (andIs_le _ _) (Pr.le_of_eq (by rw [List.take_length])), trivial⟩
/-- What a change makes of endpoints. -/
def apE (l : List Ept) (c : Chg) : List Ept × Int :=
  if c.endpoint < 0 ∨ ((l.length : Nat) : Int) ≤ c.endpoint then (l, 40)
  else match l[c.endpoint.toNat]? with
    | none => (l, 40)
    | some x => if (doneR x c).2.2 = 0 then (l.set c.endpoint.toNat (doneR x c).1, 0) else (l, (doneR x c).2.2)
theorem apE_bad {l : List Ept} {c : Chg} (h : c.endpoint < 0 ∨ ((l.length : Nat) : Int) ≤ c.endpoint) : apE l c = (l, 40) := if_pos h
theorem apE_at {l : List Ept} {c : Chg} {x : Ept} (h : ¬ (c.endpoint < 0 ∨ ((l.length : Nat) : Int) ≤ c.endpoint)) (hx : l[c.endpoint.toNat]? = some x) : apE l c = if (doneR x c).2.2 = 0 then (l.set c.endpoint.toNat (doneR x c).1, 0) else (l, (doneR x c).2.2) := by
  unfold apE; rw [if_neg h, hx]

theorem w_Esapply {l : List Ept} {c : Chg} {n eb : Nat} {v : Value} {p1 p2 : Pr} (hz : ∀ x ∈ l, x.sz n) (hn : n ≤ 900000) (hl : l.length ≤ 1000000) (hc : c.idn.fits ∧ c.idn.small) : FunD Tryz.prog 89 [ptr eb 0, agg (rowChg c)] [cellsRes true eb 41 [is v, p1, p2], oweRes 32 9 (l.map rowEp) v] (int (apE l c).2) [cellsRes true eb 41 [is v, p1, p2], oweRes 32 9 ((apE l c).1.map rowEp) v] := by
 refine FunD.of Tryz.func89 rfl rfl (by exact Nat.le_of_ble_eq_true rfl) fun M0 w0 S rs M1 w1 => (Tr.seq ?_)
 have hml : (l.map rowEp).length = l.length := List.length_map _
 refine ac ?_
 refine ac ?_
 refine Ch.cs 10 rfl ?_ ?_ <;> intro h1 q1
 refine ac ?_
 refine wk3 0 3 19 rfl ?_
 refine ac ?_
 refine Tr.ret (Fin.then_ret ?_)
 rw [apE_bad (l := l) (c := c) (by omega)]
 refine Fin.retD rfl (RVal.tmp rfl (Pr.le_refl _)) ?_ (List.Perm.refl _)
 · exact Pr.le_refl _
 refine ac ?_
 refine cy h1 rfl (ok_rd 1 rfl (rd_lenW rfl Tryz.underlying37 (vl rfl))) ?_
 refine ac ?_
 refine wk3 0 3 19 rfl ?_
 refine Tr.cn rfl ?_ ?_ <;> intro h2 q2
 have hA := apE_bad (l := l) (c := c) (by omega)
 refine ac ?_
 refine Tr.ret (Fin.then_ret ?_)
 rw [hA]
 refine Fin.retD rfl (RVal.tmp rfl (Pr.le_refl _)) ?_ (List.Perm.refl _)
 · exact Pr.le_refl _
 obtain ⟨x, hx⟩ := at_ (l := l) (k := c.endpoint.toNat) (by omega)
 have hA := apE_at (l := l) (c := c) (by omega) hx
 have hlt := lt_of_at hx
 refine ac ?_
 refine Tr.seq (Tr.pad (Tr.rx ?_))
 refine ax ?_
 refine xrd 2 rfl rfl (rd_elp rfl Tryz.underlying37 sz32 (vl rfl) (vl rfl) (by omega) (by rw [List.length_map]; omega)) ?_
 refine xrd 2 rfl rfl (rd_elload rfl agg32 sz32 (vl rfl) (map_rows fun _ => rfl) (by rw [List.getElem?_map, hx]; rfl)) ?_
 refine xo rfl (fun _ => ok_loadA rfl agg29 sz29 (vl rfl) rfl rfl) ?_
 refine xo rfl (fun _ => kc2 (w_Apply24 (hz x (List.mem_of_getElem? hx)).fits ((hz x (List.mem_of_getElem? hx)).small (by omega)) hc.1 hc.2) rfl rfl rfl) ?_
 refine ax ?_
 refine Cx.ef 0 rfl rfl (by decide) (ef_allocX rfl rfl (by decide) rfl z32 zo32) (Cx.ef0 0 rfl rfl (ef_storeX rfl rfl rfl rfl (VL.le (vl rfl) (agg_cellsP _)) sz32 rfl rfl) (xm rfl ?_))
 refine Cx.nil ⟨by kernel_rfl, ?_⟩
 refine FinX.open_ 0 5 rfl rfl (fun v1 => ?_)
 refine FinX.done al4 (Fin.opn 5 0 _ rfl rfl (fun _ => rfl) (fun b1 => ?_))
 refine Fin.go (wk4 0 3 5 6 rfl ?_)
 refine ac ?_
 refine Tr.cn rfl ?_ ?_ <;> intro h3 q3
 rw [if_pos (by have := q3; omega)] at hA
 refine Tr.rx ?_
 refine ax ?_
 refine xrd 2 rfl rfl (rd_elp rfl Tryz.underlying37 sz32 (vl rfl) (vl rfl) (by omega) (by rw [List.length_map]; omega)) ?_
 refine Cx.ef0 2 rfl rfl (ef_elstore rfl rfl (vl rfl) (VL.le (vl rfl) (agg_cellsP _)) sz32 rfl (map_rows fun _ => rfl) (by rw [List.getElem?_map, hx]; rfl) (by decide) (show _ = (l.set c.endpoint.toNat (doneR x c).1).map rowEp by rw [List.map_set]; rfl)) ?_
 refine Cx.nil ⟨by kernel_rfl, ?_⟩
 refine FinX.done al4 (Fin.go (Tr.drop 0 (wk1 6 rfl ?_)))
 refine ac ?_
 refine Tr.ret ?_
 rw [hA]
 refine Fin.retD rfl (RVal.tmp rfl (Pr.le_refl _)) ?_ (List.Perm.refl _)
 · refine int_eq ?_; simp_all
 rw [if_neg (by have := q3; omega)] at hA
 refine ac ?_
 refine Tr.drop 0 ?_
 refine ac ?_
 refine Tr.ret ?_
 rw [hA]
 refine Fin.retD rfl (RVal.tmp rfl (Pr.le_refl _)) ?_ (List.Perm.refl _)
 · exact Pr.le_refl _
end Go.Proofs.YtppeeogffbpcbaaGreat
namespace Go.Proofs.YtppeeogffbpcbaaGreat
open Go Go.RowKit Cp

/-- What changes, one after the other, make of endpoints. -/
def runE (l : List Chg) : List Int → List Ept → List Ept × Int
  | [], eps => (eps, 0)
  | i :: s, eps => match l[i.toNat]? with
    | none => (eps, 0)
    | some c => if (apE eps c).2 = 0 then runE l s (apE eps c).1 else (eps, (apE eps c).2)
/-- The state of a set. -/
def stE (e : Est) (l : List Chg) (s : List Int) : Est × Int :=
  if estB e = false then (zeroSt, 31)
  else if 24 < l.length then (zeroSt, 3)
  else if setB l.length s = false then (zeroSt, 46)
  else if (runE l s e.eps).2 = 0 then (⟨(runE l s e.eps).1, e.edges, e.items⟩, 0) else (zeroSt, (runE l s e.eps).2)
theorem runE_step {l : List Chg} {s : List Int} {eps : List Ept} {k : Nat} {i : Int} {c : Chg} (hi : s[k]? = some i) (hc : l[i.toNat]? = some c) : runE l (s.drop k) eps = if (apE eps c).2 = 0 then runE l (s.drop (k + 1)) (apE eps c).1 else (eps, (apE eps c).2) := by
  have hk := lt_of_at hi
  rw [List.drop_eq_getElem_cons hk]
  rw [List.getElem?_eq_getElem hk] at hi; cases hi
  rw [runE]; rw [hc]
theorem apE_len (l : List Ept) (c : Chg) : (apE l c).1.length = l.length := by
  unfold apE; split
  · rfl
  · split
    · rfl
    · split
      · exact List.length_set
      · rfl
theorem apE_sz {l : List Ept} {c : Chg} {n : Nat} (hz : ∀ x ∈ l, x.sz n) (hi : c.idn.fits ∧ c.idn.small) : ∀ x ∈ (apE l c).1, x.sz (n + 1) := by
  have hz1 : ∀ x ∈ l, x.sz (n + 1) := fun x hx => (hz x hx).le (by omega)
  unfold apE; split
  · exact hz1
  · split
    · exact hz1
    next x hx =>
    split
    next h0 =>
      intro y hy
      rcases List.mem_or_eq_of_mem_set hy with hy | hy
      · exact hz1 y hy
      · subst hy
        exact (sz_done (b := (doneR x c).2.1) (by rw [← h0]) (hz x (List.mem_of_getElem? hx)) hi).1
    · exact hz1
def lastS (s : List Int) (k : Nat) : Int := if k = 0 then -1 else s[k - 1]?.getD 0
theorem lastS_succ {s : List Int} {k : Nat} {i : Int} (h : s[k]? = some i) : lastS s (k + 1) = i := by unfold lastS; rw [if_neg (by omega), Nat.add_sub_cancel, h]; rfl
theorem setAt_last {n : Int} {s : List Int} {k : Nat} {i : Int} (h : ∀ j, j < k → setAt n s j = true) (hi : s[k]? = some i) : setAt n s k = !(decide (i ≤ lastS s k) || decide (n ≤ i)) := by
  have hk := lt_of_at hi
  unfold setAt lastS
  rw [hi, Option.getD_some]
  rcases Nat.eq_zero_or_pos k with hz | hz
  · subst hz; rw [Bool.eq_iff_iff]; simp; omega
  · have h1 := h (k - 1) (by omega)
    unfold setAt at h1
    simp only [Bool.and_eq_true, decide_eq_true_eq] at h1
    rw [if_neg (by omega), Bool.eq_iff_iff]; simp; omega
theorem set_bad {n : Int} {s : List Int} {k : Nat} {i : Int} (h : ∀ j, j < k → setAt n s j = true) (hi : s[k]? = some i) (hb : i ≤ lastS s k ∨ n ≤ i) : setB n s = false :=
  allI_hit (p := setAt n s) (k := k) (lt_of_at hi) (by rw [setAt_last h hi]; simp; omega)
theorem set_ge {n : Int} {s : List Int} (h : ∀ j, j < s.length → setAt n s j = true) : ∀ j, j < s.length → (j : Int) ≤ s[j]?.getD 0
  | 0, hj => by have := h 0 hj; unfold setAt at this; simp at this; simp; omega
  | j + 1, hj => by
    have h1 := set_ge h j (by omega)
    have := h (j + 1) hj
    unfold setAt at this
    simp only [Bool.and_eq_true, Bool.or_eq_true, decide_eq_true_eq, Nat.add_sub_cancel] at this
    omega
theorem set_len {n : Nat} {s : List Int} (h : setB n s = true) : s.length ≤ n := by
  unfold setB at h; rw [allI_iff] at h
  rcases Nat.eq_zero_or_pos s.length with hz | hz
  · omega
  · have h1 := set_ge h (s.length - 1) (by omega)
    have h2 := h (s.length - 1) (by omega)
    unfold setAt at h2
    simp only [Bool.and_eq_true, decide_eq_true_eq] at h2
    omega
theorem set_mem {n : Nat} {s : List Int} (h : setB n s = true) {k : Nat} {i : Int} (hi : s[k]? = some i) : 0 ≤ i ∧ i < n := by
  unfold setB at h; rw [allI_iff] at h
  have h2 := h k (lt_of_at hi)
  unfold setAt at h2
  rw [hi] at h2
  simp only [Option.getD_some, Bool.and_eq_true, decide_eq_true_eq] at h2
  exact h2.1

theorem w_EsState {e : Est} {l : List Chg} {s : List Int} {n : Nat} (hz : e.sz n) (hn : n ≤ 800000) (hc : ∀ c ∈ l, c.idn.fits ∧ c.idn.small) : Fun Tryz.prog 31 [agg (rowSt e), slice 8 (l.map rowChg), ints s] (tup [agg (rowSt (stE e l s).1), int (stE e l s).2]) := by
 refine fo Tryz.func31 rfl ⟨rfl, rfl⟩ fun M0 w0 => (Tr.lenm 1 rfl fun hlm_1 => (Tr.lenm 2 rfl fun hlm_2 => (Tr.seq (Tr.regT (tp rfl (ok_box rfl (VL.le (vl rfl) (agg_cellsP _))) ?_)))))
 refine TO.alloc rfl rfl (by decide) rfl z41 zo41 (fun b1 => ?_)
 refine ap ?_
 refine ac ?_
 refine co rfl (kc1 (w_XCheck (hz.fits (by omega))) rfl rfl) ?_
 refine ac ?_
 refine Tr.cn rfl ?_ ?_ <;> intro h1 q1
 have hA : stE e l s = (zeroSt, 31) := if_pos (by have := q1; cases h_ : estB e <;> simp_all)
 refine ap ?_
 refine Tr.ret (Fin.block_ret (Fin.then_ret (Fin.retX2 rfl (RVal.cell 0 rfl rfl agg41 sz41 rfl (Pr.le_refl _)) (RVal.tmp rfl (Pr.le_refl _)) ?_)))
 refine tup_le ⟨?_, ?_, trivial⟩
 · rw [hA]; exact agg_le ⟨nil_slice 9, nil_slice 2, nil_slice 5, trivial⟩
 · exact int_eq (by rw [hA])
 have hok : estB e = true := by have := q1; cases h_ : estB e <;> simp_all
 refine ac ?_
 refine Tr.cn rfl ?_ ?_ <;> intro h2 q2
 have hA : stE e l s = (zeroSt, 3) := by unfold stE; rw [if_neg (by simp [hok]), if_pos (by have := q2; omega)]
 refine ap ?_
 refine wk2 6 7 rfl (Tr.ret (Fin.block_ret (Fin.then_ret (Fin.retX2 rfl (RVal.cell 0 rfl rfl agg41 sz41 rfl (Pr.le_refl _)) (RVal.tmp rfl (Pr.le_refl _)) ?_))))
 refine tup_le ⟨?_, ?_, trivial⟩
 · rw [hA]; exact agg_le ⟨nil_slice 9, nil_slice 2, nil_slice 5, trivial⟩
 · exact int_eq (by rw [hA])
 have hl24 : l.length ≤ 24 := by have := q2; omega
 refine ac ?_
 refine ac ?_
 refine ac ?_
 refine wk8 1 2 3 6 8 25 26 27 rfl (Tr.block (Tr.loopw [(1, _), (2, _), (3, _), (6, _), (25, _), (26, _)] (kk6 rfl) (fun k : Nat => [(27, int ((k : Nat) : Int)), (8, int (lastS s k))]) (fun k : Nat => k ≤ (s).length ∧ (∀ j, j < k → setAt l.length s j = true)) (fun k : Nat => (s).length - k) 0 (⟨Nat.zero_le _, fun j hj => absurd hj (by omega)⟩) ⟨ke rfl, ⟨_, rfl, int_eq rfl⟩, trivial⟩ ?_))
 rintro k ⟨hle_k, hinv_k⟩
 refine ac ?_
 refine Tr.seq ?_
 refine Tr.cn rfl ?_ ?_ <;> intro h3 q3
 have hk_k : k < (s).length := lt_of_dec h3
 obtain ⟨i, hx_k⟩ := at_ hk_k
 have hsl := setAt_last hinv_k hx_k
 refine ac ?_
 refine Tr.seq (Tr.block (Tr.seq (Tr.reg0 (co rfl (ok_indexAddr rfl Tryz.underlying59 sz3 (vl rfl) (vl rfl) (by omega) (row_at hx_k)) ?_))))
 refine ac ?_
 refine ac ?_
 refine Ch.cs 34 rfl ?_ ?_ <;> intro h4 q4
 refine ac ?_
 refine wk9 1 2 3 6 10 25 26 27 39 rfl (Tr.cond rfl (fun _ => ?_) (fun h => nomatch h))
 refine Tr.seq (Tr.regT (tp rfl (ok_build (rows := []) rfl bl41 zo41 trivial rfl) (TO.store_all 0 rfl rfl rfl (vl rfl) (VL.le (vl rfl) (agg_cellsP _)) rfl sz41 rfl rfl (tm rfl (TO.nil (Fin.go (Tr.ret (Fin.then_ret (Fin.block_ret (Fin.then_ret (Fin.then_ret (Fin.block_ret (Fin.then_ret (Fin.retX2 rfl (RVal.cell 0 rfl rfl agg41 sz41 rfl (Pr.le_refl _)) (RVal.tmp rfl (Pr.le_refl _)) ?_))))))))))))))
 refine tup_le ⟨?_, ?_, trivial⟩
 · rw [(show stE e l s = (zeroSt, 46) by unfold stE; rw [if_neg (by simp [hok]), if_neg (by omega), if_pos (set_bad hinv_k hx_k (by omega))])]; exact agg_le ⟨nil_slice 9, nil_slice 2, nil_slice 5, trivial⟩
 · exact int_eq (by rw [(show stE e l s = (zeroSt, 46) by unfold stE; rw [if_neg (by simp [hok]), if_neg (by omega), if_pos (set_bad hinv_k hx_k (by omega))])])
 refine ac ?_
 refine wk9 1 2 3 6 10 25 26 27 39 rfl ?_
 refine Tr.cn rfl ?_ ?_ <;> intro h5 q5
 refine ap ?_
 refine Tr.ret (Fin.then_ret (Fin.block_ret (Fin.then_ret (Fin.then_ret (Fin.block_ret (Fin.then_ret (Fin.retX2 rfl (RVal.cell 0 rfl rfl agg41 sz41 rfl (Pr.le_refl _)) (RVal.tmp rfl (Pr.le_refl _)) ?_)))))))
 refine tup_le ⟨?_, ?_, trivial⟩
 · rw [(show stE e l s = (zeroSt, 46) by unfold stE; rw [if_neg (by simp [hok]), if_neg (by omega), if_pos (set_bad hinv_k hx_k (by omega))])]; exact agg_le ⟨nil_slice 9, nil_slice 2, nil_slice 5, trivial⟩
 · exact int_eq (by rw [(show stE e l s = (zeroSt, 46) by unfold stE; rw [if_neg (by simp [hok]), if_neg (by omega), if_pos (set_bad hinv_k hx_k (by omega))])])
 refine ac ?_
 refine ac ?_
 refine ac ?_
 exact Fin.fam_same (k + 1) ⟨⟨hk_k, allI_step hinv_k (by rw [hsl]; simp; omega)⟩, by omega⟩ ⟨⟨_, rfl, int_succ k⟩, ⟨_, rfl, int_eq (by rw [lastS_succ hx_k])⟩, ke rfl, ke rfl, ke rfl, ke rfl, ke rfl, ke rfl, trivial⟩
 have he_k : k = (s).length := by have := ge_of_dec h3; omega
 subst he_k
 have hsb : setB l.length s = true := allI_iff.2 hinv_k
 have hsn := set_len hsb
 have hel := hz.le
 refine ac ?_
 refine ap ?_
 refine TO.callV rfl rfl (by decide) rfl (w_EsCopyV hz (by omega)) ⟨ke rfl, trivial⟩ (fun v1 => ?_)
 refine TO.alloc rfl rfl (by decide) rfl z41 zo41 (fun b2 => ?_)
 refine ap ?_
 refine ac ?_
 refine wk6 1 6 11 45 46 47 rfl (Tr.block (Tr.loopD2V0 [(1, _), (6, _), (11, _), (45, _), (46, _)] ⟨ke rfl, ke rfl, ke rfl, ke rfl, ke rfl, trivial⟩ (fun (m : Nat) (eps : List Ept) => [(47, int ((m : Nat) : Int))]) (fun (m : Nat) (eps : List Ept) => Hp M0 w0 noS ([cellsRes true b2 41 [is v1, edgs e.edges, itms e.items], oweRes 32 9 (eps.map rowEp) v1, cellsRes true b1 41 (([.slice none 0 0, .slice none 0 0, .slice none 0 0] : List Value).map is)])) (fun (m : Nat) (eps : List Ept) => m ≤ s.length ∧ (∀ x ∈ eps, x.sz (n + m)) ∧ eps.length = e.eps.length ∧ runE l (s.drop m) eps = runE l s e.eps) (fun (m : Nat) (eps : List Ept) => s.length - m) (0) (e.eps)  (⟨Nat.zero_le _, hz.eps, rfl, rfl⟩) ⟨ke rfl, trivial⟩ (fun _ _ h => h) ?_))
 rintro m eps  ⟨hm1, hse, hm3, hm4⟩
 refine ac ?_
 refine Tr.seq ?_
 refine Tr.cn rfl ?_ ?_ <;> intro h6 q6
 have hmm : m < s.length := by have := Nrm.nrm h6; omega
 obtain ⟨i, hx_m⟩ := at_ hmm
 have him := set_mem hsb hx_m
 obtain ⟨c, hcc⟩ := at_ (l := l) (k := i.toNat) (by omega)
 have hci := hc c (List.mem_of_getElem? hcc)
 have hst := runE_step (eps := eps) hx_m hcc
 rw [hm4] at hst
 refine ac ?_
 refine Tr.seq (Tr.block (Tr.seq (Tr.reg0 (co rfl (ok_indexAddr rfl Tryz.underlying59 sz3 (vl rfl) (vl rfl) (by omega) (row_at hx_m)) ?_))))
 refine ac ?_
 refine ap ?_
 refine tp rfl (ok_indexAddr rfl Tryz.underlying47 sz29 (vl rfl) (vl rfl) (by omega) (row_atI (f := rowChg) hcc)) (tp rfl (ok_loadA rfl agg29 sz29 (vl rfl) rfl rfl) ?_)
 refine TO.callD _ rfl rfl (by decide) rfl (w_Esapply (l := eps) (c := c) hse (by omega) (by omega) hci) ⟨ke rfl, ke rfl, trivial⟩ ((perm_at (j := 0) rfl).trans (List.Perm.cons _ ((perm_at (j := 0) rfl).trans (List.Perm.cons _ (List.Perm.refl _))))) ?_
 refine ap ?_
 refine wk7 1 6 11 14 45 46 47 rfl ?_
 refine ac ?_
 refine Tr.cn rfl ?_ ?_ <;> intro h7 q7
 have h0_ : ¬ (apE eps c).2 = 0 := by have := q7; omega
 rw [if_neg h0_] at hst
 have hA : stE e l s = (zeroSt, (apE eps c).2) := by unfold stE; rw [if_neg (by simp [hok]), if_neg (by omega), if_neg (by simp [hsb]), hst]; exact if_neg h0_
 refine ap ?_
 refine Tr.ret (Fin.block_ret (Fin.then_ret (Fin.then_ret (Fin.block_ret (Fin.then_ret (Fin.retX2 rfl (RVal.cell 2 rfl rfl agg41 sz41 rfl (Pr.le_refl _)) (RVal.tmp rfl (Pr.le_refl _)) ?_))))))
 refine tup_le ⟨?_, ?_, trivial⟩
 · rw [hA]; exact agg_le ⟨nil_slice 9, nil_slice 2, nil_slice 5, trivial⟩
 · exact int_eq (by rw [hA])
 have h0_ := q7
 refine ac ?_
 refine ac ?_
 exact Fin.famD2V0 (m + 1) ((apE eps c).1)  (⟨⟨by omega, by have := apE_sz (c := c) hse hci; rw [show n + (m + 1) = n + m + 1 by omega]; exact this, by rw [apE_len]; exact hm3, by rw [hst, if_pos (by omega)]⟩, by omega⟩) ⟨⟨_, rfl, int_succ m⟩, ke rfl, ke rfl, ke rfl, ke rfl, ke rfl, trivial⟩ (fun _ _ h => h)
 obtain rfl : m = s.length := by have := Nrm.nrm h6; omega
 rw [List.drop_length] at hm4
 have hA : stE e l s = (⟨eps, e.edges, e.items⟩, 0) := by unfold stE; rw [if_neg (by simp [hok]), if_neg (by omega), if_neg (by simp [hsb]), ← hm4]; exact if_pos rfl
 refine ac ?_
 refine Tr.seq (Tr.frzWC 0 1 0 rfl rfl (by decide) rfl (Pr.le_refl _) (map_rows fun _ => rfl) ?_)
 refine ap ?_
 refine Tr.ret (Fin.retX2 rfl (RVal.cell 2 rfl rfl agg41 sz41 rfl (Pr.le_refl _)) (RVal.tmp rfl (Pr.le_refl _)) ?_)
 refine tup_le ⟨?_, ?_, trivial⟩
 · rw [hA]; exact Pr.le_refl _
 · exact int_eq (by rw [hA])
end Go.Proofs.YtppeeogffbpcbaaGreat
namespace Go.Proofs.YtppeeogffbpcbaaGreat
open Go Go.RowKit Cp

theorem set0 : setB ((1 : Nat) : Int) [0] = true := by decide
theorem set01 : setB ((2 : Nat) : Int) [0, 1] = true := by decide
/-- One change of an estate. -/
def stp (e : Est) (c : Chg) : Est × Int := if (apE e.eps c).2 = 0 then (⟨(apE e.eps c).1, e.edges, e.items⟩, 0) else (zeroSt, (apE e.eps c).2)
def aplE (e : Est) (c : Chg) : Est × Int := if estB e = false then (zeroSt, 31) else stp e c
theorem runE_one (c : Chg) (eps : List Ept) : runE [c] [0] eps = if (apE eps c).2 = 0 then ((apE eps c).1, 0) else (eps, (apE eps c).2) := rfl
theorem st_one (e : Est) (c : Chg) : stE e [c] [0] = aplE e c := by
  unfold stE aplE
  by_cases h : estB e = false
  · rw [if_pos h, if_pos h]
  · rw [if_neg h, if_neg h, if_neg (by simp), if_neg (by show ¬ setB ((1 : Nat) : Int) [0] = false; rw [set0]; decide), runE_one]
    unfold stp
    by_cases h2 : (apE e.eps c).2 = 0
    · rw [if_pos h2, if_pos rfl, if_pos h2]
    · rw [if_neg h2, if_neg h2, if_neg h2]
def run2 (a b : Chg) (eps : List Ept) : List Ept × Int := if (apE eps a).2 = 0 then (if (apE (apE eps a).1 b).2 = 0 then ((apE (apE eps a).1 b).1, 0) else ((apE eps a).1, (apE (apE eps a).1 b).2)) else (eps, (apE eps a).2)
theorem runE_two (a b : Chg) (eps : List Ept) : runE [a, b] [0, 1] eps = run2 a b eps := rfl
theorem st_two (e : Est) (a b : Chg) (h : estB e = true) : stE e [a, b] [0, 1] = if (run2 a b e.eps).2 = 0 then (⟨(run2 a b e.eps).1, e.edges, e.items⟩, 0) else (zeroSt, (run2 a b e.eps).2) := by
  unfold stE
  rw [if_neg (by simp [h]), if_neg (by simp), if_neg (by show ¬ setB ((2 : Nat) : Int) [0, 1] = false; rw [set01]; decide), runE_two]
theorem st_two2 (e : Est) (a b : Chg) (h : estB e = true) : (stE e [a, b] [0, 1]).2 = (run2 a b e.eps).2 ∧ ((run2 a b e.eps).2 = 0 → (stE e [a, b] [0, 1]).1 = ⟨(run2 a b e.eps).1, e.edges, e.items⟩) := by
  rw [st_two e a b h]
  by_cases h0 : (run2 a b e.eps).2 = 0
  · rw [if_pos h0]; exact ⟨h0.symm, fun _ => rfl⟩
  · rw [if_neg h0]; exact ⟨rfl, fun h => absurd h h0⟩
def comB (e : Est) (a b : Chg) : Bool := decide ((run2 a b e.eps).2 = 0 ∧ (run2 b a e.eps).2 = 0 ∧ (run2 a b e.eps).1 = (run2 b a e.eps).1)
def comE (e : Est) (a b : Chg) : Bool × Int := if estB e = false then (false, 31) else (comB e a b, 0)
def relP (x : Edg) (l : List Chg) (i : Nat) : Bool := (l[i]?).any fun c => decide (c.endpoint = x.client ∨ c.endpoint = x.server)
def relT (x : Edg) (l : List Chg) (k : Nat) : List Int := ((List.range k).filter (relP x l)).map fun i : Nat => (i : Int)
theorem relT_yes {x : Edg} {l : List Chg} {k : Nat} (h : relP x l k = true) : relT x l (k + 1) = relT x l k ++ [(k : Int)] := by unfold relT; rw [List.range_succ, List.filter_append, List.map_append]; simp [h]
theorem relT_no {x : Edg} {l : List Chg} {k : Nat} (h : relP x l k = false) : relT x l (k + 1) = relT x l k := by unfold relT; rw [List.range_succ, List.filter_append, List.map_append]; simp [h]
theorem relT_len (x : Edg) (l : List Chg) (k : Nat) : (relT x l k).length ≤ k := by unfold relT; rw [List.length_map]; exact Nat.le_trans (List.length_filter_le _ _) (by rw [List.length_range]; exact Nat.le_refl _)
def relE (e : Est) (l : List Chg) (k : Int) : List Int × Int :=
  if estB e = false then ([], 31) else if 24 < l.length then ([], 3) else if k < 0 ∨ ((e.edges.length : Nat) : Int) ≤ k then ([], 4)
  else (relT (e.edges[k.toNat]?.getD zeroG) l l.length, 0)

theorem w_EsApply {e : Est} {c : Chg} {n : Nat} (hz : e.sz n) (hn : n ≤ 800000) (hci : c.idn.fits ∧ c.idn.small) : Fun Tryz.prog 33 [agg (rowSt e), agg (rowChg c)] (tup [agg (rowSt (aplE e c).1), int (aplE e c).2]) := by
 refine fo Tryz.func33 rfl ⟨rfl, rfl⟩ fun M0 w0 => (Tr.seq (Tr.regT (tp rfl (ok_box rfl (VL.le (vl rfl) (agg_cellsP _))) (tp rfl (ok_box rfl (VL.le (vl rfl) (agg_cellsP _))) ?_))))
 refine TO.alloc rfl rfl (by decide) rfl z41 zo41 (fun b1 => ?_)
 refine ap ?_
 refine ap ?_
 refine tp rfl (ok_call rfl (w_EsState (e := e) (l := [c]) (s := [0]) hz hn (fun x hx => by simp at hx; subst hx; exact hci)) ⟨ke rfl, ⟨_, rfl, Pr.le_trans (full_le _ _) (Pr.le_of_eq (show _ = slice 8 (([c] : List Chg).map rowChg) from rfl))⟩, ⟨_, rfl, Pr.le_trans (full_le _ _) (Pr.le_of_eq (show _ = ints [0] from rfl))⟩, trivial⟩) ?_
 refine ap ?_
 refine Tr.ret (Fin.retX2 rfl (RVal.cell 0 rfl rfl agg41 sz41 rfl (Pr.le_refl _)) (RVal.tmp rfl (Pr.le_refl _)) ?_)
 refine tup_le ⟨?_, ?_, trivial⟩
 · rw [← st_one]; exact Pr.le_refl _
 · exact int_eq (by rw [st_one])
theorem w_EsCommute {e : Est} {a b : Chg} {n : Nat} (hz : e.sz n) (hn : n ≤ 800000) (hai : a.idn.fits ∧ a.idn.small) (hbi : b.idn.fits ∧ b.idn.small) : Fun Tryz.prog 38 [agg (rowSt e), agg (rowChg a), agg (rowChg b)] (tup [bool (comE e a b).1, int (comE e a b).2]) := by
 refine fo Tryz.func38 rfl ⟨rfl, rfl⟩ fun M0 w0 => ?_
 refine ac ?_
 refine ac ?_
 refine co rfl (kc1 (w_XCheck (hz.fits (by omega))) rfl rfl) ?_
 refine ac ?_
 refine Tr.cn rfl ?_ ?_ <;> intro h1 q1
 have hA : comE e a b = (false, 31) := if_pos (by have := q1; cases h_ : estB e <;> simp_all)
 refine ac ?_
 refine Tr.ret (Fin.then_ret (Fin.ret2 rfl (OutW.bse _ _) rfl ?_ rfl ?_))
 · exact bool_eq (by rw [hA])
 · exact int_eq (by rw [hA])
 have hok : estB e = true := by have := q1; cases h_ : estB e <;> simp_all
 have hA : comE e a b = (comB e a b, 0) := if_neg (by simp [hok])
 obtain ⟨hs1, hs2⟩ := st_two2 e a b hok
 obtain ⟨hs3, hs4⟩ := st_two2 e b a hok
 refine ac ?_
 refine ao ?_
 refine tp rfl (ok_call rfl (w_EsState (e := e) (l := [a, b]) (s := [0, 1]) hz hn (fun x hx => by simp at hx; rcases hx with rfl | rfl; exact hai; exact hbi)) ⟨ke rfl, ⟨_, rfl, Pr.le_trans (full_le _ _) (Pr.le_of_eq (show _ = slice 8 (([a, b] : List Chg).map rowChg) from rfl))⟩, ⟨_, rfl, Pr.le_trans (full_le _ _) (Pr.le_of_eq (show _ = ints [0, 1] from rfl))⟩, trivial⟩) ?_
 refine ao ?_
 refine TO.alloc rfl rfl (by decide) rfl z41 zo41 (fun b1 => ?_)
 refine sf 0 8 ⟨rfl, rfl, rfl⟩ rfl rfl rfl rfl ?_
 refine ao ?_
 refine wk5 3 4 5 8 9 rfl ?_
 refine ao ?_
 refine tp rfl (ok_call rfl (w_EsState (e := e) (l := [b, a]) (s := [0, 1]) hz hn (fun x hx => by simp at hx; rcases hx with rfl | rfl; exact hbi; exact hai)) ⟨ke rfl, ⟨_, rfl, Pr.le_trans (full_le _ _) (Pr.le_of_eq (show _ = slice 8 (([b, a] : List Chg).map rowChg) from rfl))⟩, ⟨_, rfl, Pr.le_trans (full_le _ _) (Pr.le_of_eq (show _ = ints [0, 1] from rfl))⟩, trivial⟩) ?_
 refine ao ?_
 refine TO.alloc rfl rfl (by decide) rfl z41 zo41 (fun b2 => ?_)
 refine sf 0 10 ⟨rfl, rfl, rfl⟩ rfl rfl rfl rfl ?_
 refine ao ?_
 refine wk4 8 9 10 11 rfl ?_
 refine ac ?_
 refine Ch.cs 35 rfl ?_ ?_ <;> intro h2 q2
 refine ac ?_
 refine Ch.cs 39 rfl ?_ ?_ <;> intro h3 q3
 refine ac ?_
 refine cy h3 rfl (kc2 (w_EsSame) rfl rfl rfl) ?_
 refine ac ?_
 refine wk2 6 7 rfl (Tr.ret (Fin.ret2 rfl (OutW.bse _ _) rfl ?_ rfl ?_))
 · refine bool_eq ?_; rw [hA]; unfold comB; simp_all
 · exact int_eq (by rw [hA])
 refine ac ?_
 refine wk2 6 7 rfl (Tr.ret (Fin.ret2 rfl (OutW.bse _ _) rfl ?_ rfl ?_))
 · refine bool_eq ?_; rw [hA]; unfold comB; simp_all
 · exact int_eq (by rw [hA])
 refine ac ?_
 refine wk2 6 7 rfl (Tr.ret (Fin.ret2 rfl (OutW.bse _ _) rfl ?_ rfl ?_))
 · refine bool_eq ?_; rw [hA]; unfold comB; simp_all
 · exact int_eq (by rw [hA])
theorem w_EsRelevant {e : Est} {l : List Chg} {i : Int} {n : Nat} (hz : e.sz n) (hn : n ≤ 800000)  : Fun Tryz.prog 41 [agg (rowSt e), slice 8 (l.map rowChg), int i] (tup [ints (relE e l i).1, int (relE e l i).2]) := by
 refine fo Tryz.func41 rfl ⟨rfl, rfl⟩ fun M0 w0 => (Tr.lenm 1 rfl fun hlm_1 => ?_)
 refine ac ?_
 refine ac ?_
 refine co rfl (kc1 (w_XCheck (hz.fits (by omega))) rfl rfl) ?_
 refine ac ?_
 refine Tr.cn rfl ?_ ?_ <;> intro h1 q1
 have hA : relE e l i = ([], 31) := if_pos (by have := q1; cases h_ : estB e <;> simp_all)
 refine ac ?_
 refine Tr.ret (Fin.block_ret (Fin.then_ret (Fin.ret2 rfl (OutW.bse _ _) rfl ?_ rfl ?_)))
 · rw [hA]; exact nil_slice 1
 · exact int_eq (by rw [hA])
 have hok : estB e = true := by have := q1; cases h_ : estB e <;> simp_all
 refine ac ?_
 refine Tr.cn rfl ?_ ?_ <;> intro h2 q2
 have hA : relE e l i = ([], 3) := by unfold relE; rw [if_neg (by simp [hok]), if_pos (by have := q2; omega)]
 refine ac ?_
 refine Tr.ret (Fin.block_ret (Fin.then_ret (Fin.ret2 rfl (OutW.bse _ _) rfl ?_ rfl ?_)))
 · rw [hA]; exact nil_slice 1
 · exact int_eq (by rw [hA])
 have hl24 : l.length ≤ 24 := by have := q2; omega
 refine ac ?_
 refine Ch.cs 23 rfl ?_ ?_ <;> intro h3 q3
 refine ac ?_
 refine wk4 1 2 3 20 rfl ?_
 refine ac ?_
 refine Tr.ret (Fin.block_ret (Fin.then_ret (Fin.ret2 rfl (OutW.bse _ _) rfl ?_ rfl ?_)))
 · rw [(show relE e l i = ([], 4) by unfold relE; rw [if_neg (by simp [hok]), if_neg (by omega), if_pos (by omega)])]; exact nil_slice 1
 · exact int_eq (by rw [(show relE e l i = ([], 4) by unfold relE; rw [if_neg (by simp [hok]), if_neg (by omega), if_pos (by omega)])])
 refine ac ?_
 refine wk4 1 2 3 20 rfl ?_
 refine Tr.cn rfl ?_ ?_ <;> intro h4 q4
 refine ac ?_
 refine Tr.ret (Fin.block_ret (Fin.then_ret (Fin.ret2 rfl (OutW.bse _ _) rfl ?_ rfl ?_)))
 · rw [(show relE e l i = ([], 4) by unfold relE; rw [if_neg (by simp [hok]), if_neg (by omega), if_pos (by omega)])]; exact nil_slice 1
 · exact int_eq (by rw [(show relE e l i = ([], 4) by unfold relE; rw [if_neg (by simp [hok]), if_neg (by omega), if_pos (by omega)])])
 obtain ⟨g, hg⟩ := at_ (l := e.edges) (k := i.toNat) (by omega)
 have hA : relE e l i = (relT g l l.length, 0) := by unfold relE; rw [if_neg (by simp [hok]), if_neg (by omega), if_neg (by omega), getD_at hg]
 refine ac ?_
 refine ac ?_
 refine ac ?_
 refine Tr.block (Tr.addnil 3 1 (Tr.loopV1 [(2, _), (3, _), (30, _), (31, _)] ⟨ke rfl, ke rfl, ke rfl, ke rfl, trivial⟩ (fun k v => [(32, int ((k : Nat) : Int)), (8, andIs v (ints (relT g l k)))]) (fun k v => Hp M0 w0 noS ([appRes 3 1 v])) (fun k : Nat => k ≤ (l).length) (fun k : Nat => (l).length - k) 0 (.slice none 0 0) (Nat.zero_le _) ⟨ke rfl, ⟨_, rfl, own_nil rfl⟩, trivial⟩ (fun _ _ h => h) ?_))
 rintro k v hle_k
 refine ac ?_
 refine Tr.seq ?_
 refine Tr.cn rfl ?_ ?_ <;> intro h5 q5
 have hk_k : k < (l).length := lt_of_dec h5
 obtain ⟨c, hx_k⟩ := at_ hk_k
 have hrl := relT_len g l k
 refine ac ?_
 refine ao ?_
 refine tp rfl (ok_indexAddr rfl Tryz.underlying47 sz29 (vl rfl) (vl rfl) (by omega) (row_at hx_k)) (tp rfl (ok_loadA rfl agg29 sz29 (vl rfl) rfl rfl) ?_)
 refine TO.alloc rfl rfl (by decide) rfl z29 zo29 (fun b1 => ?_)
 refine tm rfl ?_
 refine sf 0 10 ⟨rfl, rfl, rfl⟩ rfl rfl rfl rfl ?_
 refine ao ?_
 refine wk8 2 3 8 9 10 30 31 32 rfl ?_
 refine ao ?_
 refine tp rfl (ok_indexAddr rfl Tryz.underlying38 sz80 (vl rfl) (vl rfl) (by omega) (row_atI (f := rowG) hg)) (tp rfl (ok_loadA rfl agg80 sz80 (vl rfl) rfl rfl) ?_)
 refine TO.alloc rfl rfl (by decide) rfl z80 zo80 (fun b2 => ?_)
 refine sf 0 11 ⟨rfl, rfl, rfl⟩ rfl rfl rfl rfl ?_
 refine ao ?_
 refine wk9 2 3 8 9 10 11 30 31 32 rfl ?_
 refine ac ?_
 refine Ch.cs 47 rfl ?_ ?_ <;> intro h6 q6
 have hP : relP g l k = true := by unfold relP; rw [hx_k]; simp; omega
 refine ac ?_
 refine wk8 2 3 8 9 30 31 32 53 rfl (Tr.cond rfl (fun _ => ?_) (fun h => nomatch h))
 refine Tr.regT (tm rfl (tm rfl (tp rfl (ok_buildSlice (xs := [.tmp 55]) (rows := [[_]]) rfl rfl Tryz.underlying59 sz3 z3 rfl (by decide) ⟨⟨(by exact rfl), (VL.le (vl rfl) (one_cellsP _))⟩, trivial⟩ (by decide)) ?_)))
 refine TO.efs 0 rfl rfl (by decide) (ef_append rfl rfl (by decide) rfl Tryz.underlying59 sz3 by3 z3 rfl (by decide) ⟨_, rfl, andIs_le _ _⟩ ⟨_, rfl, full_le _ _⟩ (by simp only [List.length_map, List.length_append, List.length_cons, List.length_nil]; unfold maxLen; omega) (by simp only [List.length_map, List.length_append, List.length_cons, List.length_nil]; omega) (appR_is (by exact List.Mem.head _) ⟨_, rfl, andIs_is _ _⟩)) (fun v1 => ?_)
 refine ao ?_
 refine ac ?_
 exact Fin.famV1 (k + 1) v1 (⟨hk_k, by omega⟩) ⟨⟨_, rfl, int_succ k⟩, ⟨_, rfl, own_le (by rw [relT_yes hP, List.map_append]; rfl)⟩, ke rfl, ke rfl, ke rfl, ke rfl, trivial⟩ (fun _ _ h => h)
 refine ac ?_
 refine wk8 2 3 8 9 30 31 32 53 rfl ?_
 refine Tr.cn rfl ?_ ?_ <;> intro h7 q7
 have hP : relP g l k = true := by unfold relP; rw [hx_k]; simp; omega
 refine ao ?_
 refine TO.efs 0 rfl rfl (by decide) (ef_append rfl rfl (by decide) rfl Tryz.underlying59 sz3 by3 z3 rfl (by decide) ⟨_, rfl, andIs_le _ _⟩ ⟨_, rfl, full_le _ _⟩ (by simp only [List.length_map, List.length_append, List.length_cons, List.length_nil]; unfold maxLen; omega) (by simp only [List.length_map, List.length_append, List.length_cons, List.length_nil]; omega) (appR_is (by exact List.Mem.head _) ⟨_, rfl, andIs_is _ _⟩)) (fun v2 => ?_)
 refine ao ?_
 refine ac ?_
 exact Fin.famV1 (k + 1) v2 (⟨hk_k, by omega⟩) ⟨⟨_, rfl, int_succ k⟩, ⟨_, rfl, own_le (by rw [relT_yes hP, List.map_append]; rfl)⟩, ke rfl, ke rfl, ke rfl, ke rfl, trivial⟩ (fun _ _ h => h)
 have hP : relP g l k = false := by unfold relP; rw [hx_k]; simp; omega
 refine ac ?_
 refine ac ?_
 exact Fin.famV1 (k + 1) v (⟨hk_k, by omega⟩) ⟨⟨_, rfl, int_succ k⟩, ⟨_, rfl, Pr.le_of_eq (by rw [relT_no hP])⟩, ke rfl, ke rfl, ke rfl, ke rfl, trivial⟩ (fun _ _ h => h)
 have he_k : k = (l).length := by have := ge_of_dec h5; omega
 subst he_k
 refine ac ?_
 refine ac ?_
 refine Tr.ret (Fin.ret2 rfl (OutW.bse _ _) rfl ?_ rfl ?_)
 · rw [hA]; exact andIs_le _ _
 · exact int_eq (by rw [hA])
end Go.Proofs.YtppeeogffbpcbaaGreat
namespace Go.Proofs.YtppeeogffbpcbaaGreat
open Go Go.RowKit Cp

structure ChS (l : List Crt) : Prop where
  fits : ∀ c ∈ l, c.fits
  small : (⟨0, 0, 0, l⟩ : Idn).small
abbrev chE : Pr := Cp.ex fun l : List Crt => fact (ChS l) (certs l)
/-- A change of which the chain is not told. -/
abbrev rowX (c : Chg) : List Pr := [int c.endpoint, int c.kind, int c.number, int c.at_, int c.idn.alg, int c.idn.bits, int c.idn.keyId, chE]
structure MovP (es : List Ept) (c : Chg) : Prop where
  lo : 0 ≤ c.endpoint
  hi : c.endpoint < (es.length : Nat)
  kind : 1 ≤ c.kind ∧ c.kind ≤ 12
def MovX (es : List Ept) (l : List Chg) : Prop := ∀ c ∈ l, MovP es c
theorem MovX.snoc {es : List Ept} {l : List Chg} {c : Chg} (h : MovX es l) (hc : MovP es c) : MovX es (l ++ [c]) := by
  intro x hx
  rcases List.mem_append.1 hx with hx | hx
  · exact h x hx
  · simp at hx; subst hx; exact hc
theorem MovX.two {es : List Ept} {l : List Chg} {c d : Chg} (h : MovX es l) (hc : MovP es c) (hd : MovP es d) : MovX es (l ++ [c, d]) := by
  intro x hx
  rcases List.mem_append.1 hx with hx | hx
  · exact h x hx
  · simp at hx; rcases hx with rfl | rfl; exact hc; exact hd
theorem MovX.perm {es : List Ept} {l m : List Chg} (hp : m.Perm l) (h : MovX es l) : MovX es m := fun c hc => h c (hp.mem_iff.1 hc)
theorem MovX.take {es : List Ept} {l : List Chg} {n : Nat} (h : MovX es l) : MovX es (l.take n) := fun c hc => h c (List.mem_of_mem_take hc)
theorem chS_nil : ChS [] := ⟨(fun c h => by cases h), ⟨by show 0 ≤ _; omega, (fun c hc => by cases hc)⟩⟩
theorem nil_chE : Pr.le (is (.slice none 0 0)) chE := ex_in [] (fact_in chS_nil (nil_slice 15))
theorem sum_chE {nm : List UInt8} (h : nm ∈ nameL) {a b id key : Int} : Pr.le (sumP nm a b id 901 key) chE := by
  rintro M w v ⟨s, hs, hv⟩
  have hf := leafF (a := a) (b := b) (id := id) (key := key) (s := s) h
  exact ⟨_, ⟨hf.1, ⟨hf.2.chain, hf.2.names⟩⟩, hv⟩
theorem leaf_agg {nm : List UInt8} {a b id to key : Int} : (leafE nm a b id to key).le (agg [int a, int b, int id, sumP nm a b id to key]) := by
  rintro M w v ⟨s, hs, hv⟩
  exact agg_le (ps := rowId (leafI nm a b id to key s)) (qs := [int a, int b, int id, sumP nm a b id to key]) ⟨Pr.le_refl _, Pr.le_refl _, Pr.le_refl _, fun M w v h => ⟨s, hs, h⟩, trivial⟩ M w v hv
theorem rowX_row (c : Chg) (M : Av) (w : World) (ad : Addr) (n : Nat) (h : Row M w ad n (rowX c)) : ∃ b : Chg, (b.endpoint = c.endpoint ∧ b.kind = c.kind ∧ b.number = c.number ∧ b.at_ = c.at_ ∧ ChS b.idn.chain) ∧ Row M w ad n (rowChg b) := by
  obtain ⟨ch, h1⟩ := row_exL (ps := [int c.endpoint, int c.kind, int c.number, int c.at_, int c.idn.alg, int c.idn.bits, int c.idn.keyId]) h
  obtain ⟨h2, h3⟩ := row_factL (ps := [int c.endpoint, int c.kind, int c.number, int c.at_, int c.idn.alg, int c.idn.bits, int c.idn.keyId]) h1
  exact ⟨⟨c.endpoint, c.kind, c.number, c.at_, ⟨c.idn.alg, c.idn.bits, c.idn.keyId, ch⟩⟩, ⟨rfl, rfl, rfl, rfl, h2⟩, h3⟩
structure Movs (es : List Ept) (l : List Chg) : Prop where
  len : l.length ≤ 7
  any : ∀ c ∈ l, AnyP es c
theorem mov_ex {es : List Ept} {ms : List Chg} (h : MovX es ms) (hl : ms.length ≤ 7) : Pr.le (slice 8 (ms.map rowX)) (Cp.ex fun l : List Chg => fact (Movs es l) (slice 8 (l.map rowChg))) := by
  intro M w v hv
  obtain ⟨l, ⟨h1, h2⟩, h3⟩ := slice_each rowX_row (fun _ => rfl) (fun _ => rfl) ms M w v hv
  refine ⟨l, ⟨by omega, fun c hc => ?_⟩, h3⟩
  obtain ⟨i, hi⟩ := List.getElem?_of_mem hc
  obtain ⟨a, ha⟩ := at_ (l := ms) (k := i) (by have := lt_of_at hi; omega)
  obtain ⟨g1, g2, g3, g4, g5⟩ := h2 i a c ha hi
  have hm := h a (List.mem_of_getElem? ha)
  exact ⟨by rw [g1]; exact hm.lo, by rw [g1]; exact hm.hi, by rw [g2]; exact hm.kind, g5.fits, ⟨g5.small.chain, g5.small.names⟩⟩

theorem w_Moves {b : Nat} {s : DS} {e : Est} (hs : SndL e.eps) (hl : 1 ≤ e.eps.length ∧ e.eps.length ≤ 3) : FunM Tryz.prog 29 [ptr b 0, agg (rowSt e)] (Cp.ex fun l : List Chg => fact (Movs e.eps l) (slice 8 (l.map rowChg))) (diceS b s) (fun _ => diceEx 101 b) := by
 refine FunM.of Tryz.func29 rfl rfl (by exact Nat.le_of_ble_eq_true rfl) fun M0 w0 S rs M1 w1 => ?_
 refine Tr.seq (Tr.reg0 (co rfl (ok_box rfl (VL.le (vl rfl) (agg_cellsP _))) (cm rfl (Ch.nil (Fin.go (Tr.seq (Tr.reg0 (cm rfl (Ch.nil (Fin.go (Tr.seq (Tr.regT (tm rfl ?_)))))))))))))
 refine TO.efc 0 rfl rfl (by decide) (ef_callc rfl rfl (by decide) rfl (w_DNext (by omega) (by omega)) ⟨ke rfl, ke rfl, trivial⟩) (tp rfl (ki rfl rfl rfl rfl) (tm rfl (TO.efc 0 rfl rfl (by decide) (ef_callc rfl rfl (by decide) rfl (w_DNext (by omega) (by omega)) ⟨ke rfl, ke rfl, trivial⟩) (tp rfl (ki rfl rfl rfl rfl) (tm rfl (TO.efc 0 rfl rfl (by decide) (ef_callc rfl rfl (by decide) rfl (w_DNext (by omega) (by omega)) ⟨ke rfl, ke rfl, trivial⟩) (tp rfl (ki rfl rfl rfl rfl) (tm rfl (tm rfl (tm rfl (TO.nil (Fin.go (wk6 0 3 5 6 7 8 rfl (Tr.seq ?_))))))))))))))
 refine Tr.seq (Tr.reg0 (co rfl (kfa rfl fo41_0 rfl rfl) (co rfl (kl1 rfl one37 rfl) (co rfl (ok_lenm rfl Tryz.underlying37 (vl rfl)) (cm rfl (Ch.nil (Fin.go (Tr.block (Tr.addown 29 8 (Tr.loopD3V1 [(0, _), (6, _), (7, _), (8, _), (23, _), (24, _)] ⟨ke rfl, ke rfl, ke rfl, ke rfl, ke rfl, ke rfl, trivial⟩ (fun (k : Nat) (ms : List Chg) (s2 : DS) v => [(25, int ((k : Nat) : Int)), (5, andIs v (lens (ms.map rowX).length))]) (fun (k : Nat) (ms : List Chg) (s2 : DS) v => Hp M0 w0 S (ownRes 29 8 (ms.map rowX) v :: diceS b s2 :: extRes M1 w1 :: rs)) (fun (k : Nat) (ms : List Chg) (s2 : DS) => k ≤ e.eps.length ∧ ms.length ≤ 6 * k ∧ MovX e.eps ms) (fun (k : Nat) (ms : List Chg) (s2 : DS) => e.eps.length - k) (0) ([]) (_) (.slice none 0 0) (⟨Nat.zero_le _, by simp, fun c hc => by simp at hc⟩) ⟨ke rfl, ⟨_, rfl, lens_nil (by rfl)⟩, trivial⟩ (fun _ _ h => h) ?_))))))))))
 rintro k ms s2 v ⟨hk1, hl_ms, hm_ms⟩
 refine Tr.seq (Tr.reg0 (co rfl (ki rfl rfl rfl rfl) (Ch.nil (Fin.go (Tr.seq ?_)))))
 refine Tr.cn rfl ?_ ?_ <;> intro h1 q1
 have hk_k : k < e.eps.length := by have := Nrm.nrm h1; omega
 obtain ⟨x, hx_k⟩ := at_ hk_k
 have hse := hs k x hx_k
 have hnm := List.mem_of_getElem? hse.name
 refine Tr.skip (Fin.go (Tr.seq (Tr.block (Tr.seq (Tr.regT (tm rfl (tp rfl (ok_indexAddr rfl Tryz.underlying37 sz32 (vl rfl) (vl rfl) (by omega) (row_at hx_k)) (tp rfl (ok_loadA rfl agg32 sz32 (vl rfl) rfl rfl) ?_))))))))
 refine TO.alloc rfl rfl (by decide) rfl z32 zo32 (fun b1 => ?_)
 refine tm rfl (TO.store_all 0 rfl rfl rfl (vl rfl) (VL.le (vl rfl) (agg_cellsP _)) rfl sz32 rfl rfl (TO.freeze 0 10 rfl rfl (TO.nil (Fin.go (wk10 0 5 6 7 8 9 10 23 24 25 rfl (Tr.cutD2V1 [(0, _), (6, _), (7, _), (8, _), (9, _), (10, _), (23, _), (24, _), (25, _)] ⟨ke rfl, ke rfl, ke rfl, ke rfl, ke rfl, ke rfl, ke rfl, ke rfl, ke rfl, trivial⟩ (fun (m1 : List Chg) (s3 : DS) v1 => [(5, andIs v1 (lens (m1.map rowX).length))]) (fun (m1 : List Chg) (s3 : DS) v1 => Hp M0 w0 S (ownRes 29 8 (m1.map rowX) v1 :: diceS b s3 :: extRes M1 w1 :: rs)) (fun (m1 : List Chg) (s3 : DS) => m1.length ≤ 6 * k + 1 ∧ MovX e.eps m1) ?_ ?_))))))
 refine Tr.seq (Tr.reg0 (cm rfl (cm rfl ?_)))
 refine Ch.cs 31 rfl ?_ ?_ <;> intro h2 q2
 refine cy h2 rfl (kfa rfl fo32_3 rfl rfl) (cy h2 rfl (kl1 rfl one22 rfl) (cy h2 rfl (ok_call rfl (w_mvHas) ⟨ke rfl, ke rfl, trivial⟩) (cy h2 rfl (ok_not rfl (vl rfl)) (co rfl (kpt rfl rfl h2 rfl) (Ch.nil (Fin.go (wk11 0 5 6 7 8 9 10 23 24 25 36 rfl ?_)))))))
 refine Tr.cn rfl ?_ ?_ <;> intro h3 q3
 have hv2 := s2.val_in (n := 2) (by omega)
 refine Tr.regT (tm rfl (tm rfl (tm rfl (TO.efc 1 rfl rfl (by decide) (ef_callc rfl rfl (by decide) rfl (w_DNext (by omega) (by omega)) ⟨ke rfl, ke rfl, trivial⟩) (tp rfl (ok_build (rows := [(0, [_]), (1, [_]), (2, [_]), (3, [_])]) rfl bl29 zo29 ⟨⟨rfl, (VL.le (vl rfl) (one_cellsP _))⟩, ⟨⟨rfl, (VL.le (vl rfl) (one_cellsP _))⟩, ⟨⟨rfl, (VL.le (vl rfl) (one_cellsP _))⟩, ⟨⟨rfl, (VL.le (vl rfl) (one_cellsP _))⟩, trivial⟩⟩⟩⟩ rfl) (tp rfl (ok_buildSlice (xs := [.tmp 41]) (rows := [rowX ⟨((k : Nat) : Int), 1, 12, s2.val 2, ⟨0, 0, 0, []⟩⟩]) rfl rfl Tryz.underlying47 sz29 z29 rfl (by decide) ⟨⟨(by exact rfl), VL.le (vl rfl) (Pr.le_trans (agg_le (qs := rowX _) ⟨Pr.le_refl _, Pr.le_refl _, Pr.le_refl _, Pr.le_refl _, Pr.le_refl _, Pr.le_refl _, Pr.le_refl _, nil_chE, trivial⟩) (agg_cellsP _))⟩, trivial⟩ (by decide)) ?_))))))
 refine TO.efs 0 rfl rfl (by decide) (ef_appmut rfl rfl (by decide) rfl Tryz.underlying47 sz29 by29 z29 rfl (by decide) (by decide) (vl rfl) ⟨_, rfl, full_le _ _⟩ (map_rows fun _ => rfl) (Nat.zero_lt_succ _) (by simp only [List.length_map, List.length_cons, List.length_nil]; unfold maxLen; omega) (by simp only [List.length_map, List.length_cons, List.length_nil]; omega)) (fun v1 => ?_)
 refine tm rfl (TO.nil ?_)
 exact Fin.famD2V1 (ms ++ [⟨((k : Nat) : Int), 1, 12, s2.val 2, ⟨0, 0, 0, []⟩⟩]) (_) v1 (⟨by simp; omega, hm_ms.snoc ⟨by show 0 ≤ ((k : Nat) : Int); omega, by show ((k : Nat) : Int) < _; omega, by dsimp only; omega⟩⟩) ⟨⟨_, rfl, lens_le (by simp)⟩, ke rfl, ke rfl, ke rfl, ke rfl, ke rfl, ke rfl, ke rfl, ke rfl, ke rfl, trivial⟩ (fun _ _ h => (by rw [List.map_append]; exact h))
 refine Tr.skip (Fin.famD2V1 (ms) (_) v (⟨by omega, hm_ms⟩) ⟨⟨_, rfl, lens_le (by simp)⟩, ke rfl, ke rfl, ke rfl, ke rfl, ke rfl, ke rfl, ke rfl, ke rfl, ke rfl, trivial⟩ (fun _ _ h => h))
 iterate 4 refine cnt h2 rfl ?_
 refine co rfl (kpf rfl rfl h2 rfl) (Ch.nil (Fin.go (wk11 0 5 6 7 8 9 10 23 24 25 36 rfl (Tr.cond rfl (fun h => nomatch h) (fun _ => ?_)))))
 refine Tr.skip (Fin.famD2V1 (ms) (_) v (⟨by omega, hm_ms⟩) ⟨⟨_, rfl, lens_le (by simp)⟩, ke rfl, ke rfl, ke rfl, ke rfl, ke rfl, ke rfl, ke rfl, ke rfl, ke rfl, trivial⟩ (fun _ _ h => h))
 rintro m1 s3 v1 ⟨hl_m1, hm_m1⟩
 refine Tr.cutD2V1 [(0, _), (6, _), (7, _), (8, _), (9, _), (10, _), (23, _), (24, _), (25, _)] ⟨ke rfl, ke rfl, ke rfl, ke rfl, ke rfl, ke rfl, ke rfl, ke rfl, ke rfl, trivial⟩ (fun (m2 : List Chg) (s4 : DS) v2 => [(5, andIs v2 (lens (m2.map rowX).length))]) (fun (m2 : List Chg) (s4 : DS) v2 => Hp M0 w0 S (ownRes 29 8 (m2.map rowX) v2 :: diceS b s4 :: extRes M1 w1 :: rs)) (fun (m2 : List Chg) (s4 : DS) => m2.length ≤ 6 * k + 2 ∧ MovX e.eps m2) ?_ ?_
 refine Tr.seq (Tr.reg0 (cm rfl (cm rfl ?_)))
 refine Ch.cs 45 rfl ?_ ?_ <;> intro h4 q4
 refine cym h4 rfl (cy h4 rfl (ki rfl rfl rfl rfl) (co rfl (kpt rfl rfl h4 rfl) (Ch.nil (Fin.go (wk11 0 5 6 7 8 9 10 23 24 25 48 rfl ?_)))))
 refine Tr.cn rfl ?_ ?_ <;> intro h5 q5
 refine Tr.regT (tm rfl (tm rfl (tp rfl (ok_build (rows := [(0, [_]), (1, [_]), (2, [_])]) rfl bl29 zo29 ⟨⟨rfl, (VL.le (vl rfl) (one_cellsP _))⟩, ⟨⟨rfl, (VL.le (vl rfl) (one_cellsP _))⟩, ⟨⟨rfl, (VL.le (vl rfl) (one_cellsP _))⟩, trivial⟩⟩⟩ rfl) (tp rfl (ok_buildSlice (xs := [.tmp 51]) (rows := [rowX ⟨((k : Nat) : Int), 7, 2, 0, ⟨0, 0, 0, []⟩⟩]) rfl rfl Tryz.underlying47 sz29 z29 rfl (by decide) ⟨⟨(by exact rfl), VL.le (vl rfl) (Pr.le_trans (agg_le (qs := rowX _) ⟨Pr.le_refl _, Pr.le_refl _, Pr.le_refl _, Pr.le_refl _, Pr.le_refl _, Pr.le_refl _, Pr.le_refl _, nil_chE, trivial⟩) (agg_cellsP _))⟩, trivial⟩ (by decide)) ?_))))
 refine TO.efs 0 rfl rfl (by decide) (ef_appmut rfl rfl (by decide) rfl Tryz.underlying47 sz29 by29 z29 rfl (by decide) (by decide) (vl rfl) ⟨_, rfl, full_le _ _⟩ (map_rows fun _ => rfl) (Nat.zero_lt_succ _) (by simp only [List.length_map, List.length_cons, List.length_nil]; unfold maxLen; omega) (by simp only [List.length_map, List.length_cons, List.length_nil]; omega)) (fun v2 => ?_)
 refine tm rfl (TO.nil ?_)
 exact Fin.famD2V1 (m1 ++ [⟨((k : Nat) : Int), 7, 2, 0, ⟨0, 0, 0, []⟩⟩]) (_) v2 (⟨by simp; omega, hm_m1.snoc ⟨by show 0 ≤ ((k : Nat) : Int); omega, by show ((k : Nat) : Int) < _; omega, by dsimp only; omega⟩⟩) ⟨⟨_, rfl, lens_le (by simp)⟩, ke rfl, ke rfl, ke rfl, ke rfl, ke rfl, ke rfl, ke rfl, ke rfl, ke rfl, trivial⟩ (fun _ _ h => (by rw [List.map_append]; exact h))
 refine Tr.skip (Fin.famD2V1 (m1) (_) v1 (⟨by omega, hm_m1⟩) ⟨⟨_, rfl, lens_le (by simp)⟩, ke rfl, ke rfl, ke rfl, ke rfl, ke rfl, ke rfl, ke rfl, ke rfl, ke rfl, trivial⟩ (fun _ _ h => h))
 refine cnt h4 rfl (cnt h4 rfl (co rfl (kpf rfl rfl h4 rfl) (Ch.nil (Fin.go (wk11 0 5 6 7 8 9 10 23 24 25 48 rfl (Tr.cond rfl (fun h => nomatch h) (fun _ => ?_)))))))
 refine Tr.skip (Fin.famD2V1 (m1) (_) v1 (⟨by omega, hm_m1⟩) ⟨⟨_, rfl, lens_le (by simp)⟩, ke rfl, ke rfl, ke rfl, ke rfl, ke rfl, ke rfl, ke rfl, ke rfl, ke rfl, trivial⟩ (fun _ _ h => h))
 rintro m2 s4 v2 ⟨hl_m2, hm_m2⟩
 refine Tr.cutD2V1 [(0, _), (6, _), (7, _), (8, _), (9, _), (10, _), (23, _), (24, _), (25, _)] ⟨ke rfl, ke rfl, ke rfl, ke rfl, ke rfl, ke rfl, ke rfl, ke rfl, ke rfl, trivial⟩ (fun (m3 : List Chg) (s5 : DS) v3 => [(5, andIs v3 (lens (m3.map rowX).length))]) (fun (m3 : List Chg) (s5 : DS) v3 => Hp M0 w0 S (ownRes 29 8 (m3.map rowX) v3 :: diceS b s5 :: extRes M1 w1 :: rs)) (fun (m3 : List Chg) (s5 : DS) => m3.length ≤ 6 * k + 3 ∧ MovX e.eps m3) ?_ ?_
 refine Tr.seq (Tr.reg0 (cm rfl (cm rfl ?_)))
 refine Ch.cs 55 rfl ?_ ?_ <;> intro h6 q6
 refine cym h6 rfl (cy h6 rfl (ki rfl rfl rfl rfl) (co rfl (kpt rfl rfl h6 rfl) (Ch.nil (Fin.go (wk11 0 5 6 7 8 9 10 23 24 25 58 rfl ?_)))))
 refine Tr.cn rfl ?_ ?_ <;> intro h7 q7
 have hof := s4.of_mem (l := [2, 1]) (by simp)
 simp at hof
 refine Tr.pad (Tr.regX mixed [none, none, none, none, none, none, none, some (0, 2, true, 0), none, none, none, none, none, none, some (0, 1, true, 73), some (73, 1, true, 5)] (by kernel_rfl) (xm rfl (xm rfl (xo rfl (fun _ => kfa rfl fo32_0 rfl rfl) (xo rfl (fun _ => kl1 rfl one9 rfl) (xo rfl (fun _ => ok_call rfl (w_EC) trivial) (xm rfl (xo rfl (fun _ => ok_buildSlice (xs := [.const (.int .i64 (2)), .const (.int .i64 (1))]) (rows := [[_], [_]]) rfl rfl Tryz.underlying22 sz3 z3 rfl (by decide) ⟨⟨(by exact rfl), (VL.le (vl rfl) (one_cellsP _))⟩, ⟨⟨(by exact rfl), (VL.le (vl rfl) (one_cellsP _))⟩, trivial⟩⟩ (by decide)) ?_))))))))
 refine Cx.ef 2 rfl rfl (by decide) (ef_callc rfl rfl (by decide) rfl (w_DOf (l := [2, 1]) (by simp) (by simp)) ⟨ke rfl, ⟨_, rfl, full_le _ _⟩, trivial⟩) ?_
 refine xo rfl (fun _ => ok_call rfl (w_Leaf (name := x.name) (a := 7) (b := 256) (id := 201) (to := 901) (key := s4.of [2, 1]) (leafV hnm (.inr ⟨rfl, rfl⟩) (by omega) (by omega) (by omega)) (leafT (.inr ⟨rfl, rfl⟩) (by omega)) (by omega)) ⟨ke rfl, ke rfl, ke rfl, ke rfl, ke rfl, trivial⟩) ?_
 refine xo rfl (fun _ => kfa rfl fo32_5 rfl rfl) (xo rfl (fun _ => kl1 rfl one30 rfl) (xo rfl (fun _ => ok_lenm rfl Tryz.underlying30 (vl rfl)) (xo rfl (fun _ => ok_build (rows := [(0, [_]), (1, [_]), (4, _), (3, [_])]) rfl bl29 zo29 ⟨⟨rfl, (VL.le (vl rfl) (one_cellsP _))⟩, ⟨⟨rfl, (VL.le (vl rfl) (one_cellsP _))⟩, ⟨⟨rfl, ⟨_, rfl, Pr.le_trans (leaf_agg) (agg_cellsP _)⟩⟩, ⟨⟨rfl, (VL.le (vl rfl) (one_cellsP _))⟩, trivial⟩⟩⟩⟩ rfl) (xo rfl (fun _ => ok_buildSlice (xs := [.tmp 71]) (rows := [rowX ⟨((k : Nat) : Int), 5, 0, ((x.ids.length : Nat) : Int), ⟨7, 256, 201, []⟩⟩]) rfl rfl Tryz.underlying47 sz29 z29 rfl (by decide) ⟨⟨(by exact rfl), VL.le (vl rfl) (Pr.le_trans (agg_le (qs := rowX _) ⟨Pr.le_refl _, Pr.le_refl _, Pr.le_refl _, Pr.le_refl _, Pr.le_refl _, Pr.le_refl _, Pr.le_refl _, sum_chE hnm, trivial⟩) (agg_cellsP _))⟩, trivial⟩ (by decide)) ?_))))
 refine Cx.ef 1 rfl rfl (by decide) (ef_appmut rfl rfl (by decide) rfl Tryz.underlying47 sz29 by29 z29 rfl (by decide) (by decide) (vl rfl) ⟨_, rfl, full_le _ _⟩ (map_rows fun _ => rfl) (Nat.zero_lt_succ _) (by simp only [List.length_map, List.length_cons, List.length_nil]; unfold maxLen; omega) (by simp only [List.length_map, List.length_cons, List.length_nil]; omega)) ?_
 refine Cx.ef 1 rfl rfl (by decide) (ef_move rfl rfl (by decide) rfl (vl rfl)) ?_
 refine Cx.nil ⟨rfl, ?_⟩
 refine FinX.open_ 1 5 rfl rfl (fun v3 => ?_)
 refine FinX.done (AllC.cons (AllC.cons (AllC.cons (AllC.cons (AllC.map _))))) (Fin.drop 0 ?_)
 exact Fin.famD2V1 (m2 ++ [⟨((k : Nat) : Int), 5, 0, ((x.ids.length : Nat) : Int), ⟨7, 256, 201, []⟩⟩]) (_) v3 (⟨by simp; omega, hm_m2.snoc ⟨by show 0 ≤ ((k : Nat) : Int); omega, by show ((k : Nat) : Int) < _; omega, by dsimp only; omega⟩⟩) ⟨⟨_, rfl, lens_le (by simp)⟩, ke rfl, ke rfl, ke rfl, ke rfl, ke rfl, ke rfl, ke rfl, ke rfl, ke rfl, trivial⟩ (fun _ _ h => (by rw [List.map_append]; exact h))
 refine Tr.skip (Fin.famD2V1 (m2) (_) v2 (⟨by omega, hm_m2⟩) ⟨⟨_, rfl, lens_le (by simp)⟩, ke rfl, ke rfl, ke rfl, ke rfl, ke rfl, ke rfl, ke rfl, ke rfl, ke rfl, trivial⟩ (fun _ _ h => h))
 refine cnt h6 rfl (cnt h6 rfl (co rfl (kpf rfl rfl h6 rfl) (Ch.nil (Fin.go (wk11 0 5 6 7 8 9 10 23 24 25 58 rfl (Tr.cond rfl (fun h => nomatch h) (fun _ => ?_)))))))
 refine Tr.skip (Fin.famD2V1 (m2) (_) v2 (⟨by omega, hm_m2⟩) ⟨⟨_, rfl, lens_le (by simp)⟩, ke rfl, ke rfl, ke rfl, ke rfl, ke rfl, ke rfl, ke rfl, ke rfl, ke rfl, trivial⟩ (fun _ _ h => h))
 rintro m3 s5 v3 ⟨hl_m3, hm_m3⟩
 refine Tr.cutD2V1 [(0, _), (6, _), (7, _), (8, _), (9, _), (10, _), (23, _), (24, _), (25, _)] ⟨ke rfl, ke rfl, ke rfl, ke rfl, ke rfl, ke rfl, ke rfl, ke rfl, ke rfl, trivial⟩ (fun (m4 : List Chg) (s6 : DS) v4 => [(5, andIs v4 (lens (m4.map rowX).length))]) (fun (m4 : List Chg) (s6 : DS) v4 => Hp M0 w0 S (ownRes 29 8 (m4.map rowX) v4 :: diceS b s6 :: extRes M1 w1 :: rs)) (fun (m4 : List Chg) (s6 : DS) => m4.length ≤ 6 * k + 4 ∧ MovX e.eps m4) ?_ ?_
 refine Tr.seq (Tr.regT (tm rfl (tm rfl ?_)))
 refine TO.cases 75 rfl (fun h8 => ?_) (fun h8 => ?_)
 have q8 := Nrm.nrm h8
 refine TO.opG rfl rfl rfl h8 rfl (by decide) (kfa rfl fo32_3 rfl rfl) (TO.opG rfl rfl rfl h8 rfl (by decide) (kl1 rfl one22 rfl) (TO.opG rfl rfl rfl h8 rfl (by decide) (ok_call rfl (w_mvHas) ⟨ke rfl, ke rfl, trivial⟩) (tp rfl (kpt rfl rfl h8 rfl) (tm rfl ?_))))
 refine TO.cases 80 rfl (fun h9 => ?_) (fun h9 => ?_)
 have q9 := Nrm.nrm h9
 refine TO.opG rfl rfl rfl h9 rfl (by decide) (ok_move rfl (vl rfl)) (TO.efcG 1 rfl rfl rfl h9 rfl rfl (by decide) (ef_callc rfl rfl (by decide) rfl (w_DNext (by omega) (by omega)) ⟨ke rfl, ke rfl, trivial⟩) (TO.opG rfl rfl rfl h9 rfl (by decide) (ki rfl rfl rfl rfl) (tp rfl (kpt rfl rfl h9 rfl) (TO.nil (Fin.go (wk11 0 5 6 7 8 9 10 23 24 25 84 rfl ?_))))))
 refine Tr.cn rfl ?_ ?_ <;> intro h10 q10
 refine Tr.regT (tm rfl (tm rfl (tp rfl (ok_build (rows := [(0, [_]), (1, [_]), (2, [_])]) rfl bl29 zo29 ⟨⟨rfl, (VL.le (vl rfl) (one_cellsP _))⟩, ⟨⟨rfl, (VL.le (vl rfl) (one_cellsP _))⟩, ⟨⟨rfl, (VL.le (vl rfl) (one_cellsP _))⟩, trivial⟩⟩⟩ rfl) (tp rfl (ok_buildSlice (xs := [.tmp 87]) (rows := [rowX ⟨((k : Nat) : Int), 2, 2, 0, ⟨0, 0, 0, []⟩⟩]) rfl rfl Tryz.underlying47 sz29 z29 rfl (by decide) ⟨⟨(by exact rfl), VL.le (vl rfl) (Pr.le_trans (agg_le (qs := rowX _) ⟨Pr.le_refl _, Pr.le_refl _, Pr.le_refl _, Pr.le_refl _, Pr.le_refl _, Pr.le_refl _, Pr.le_refl _, nil_chE, trivial⟩) (agg_cellsP _))⟩, trivial⟩ (by decide)) ?_))))
 refine TO.efs 0 rfl rfl (by decide) (ef_appmut rfl rfl (by decide) rfl Tryz.underlying47 sz29 by29 z29 rfl (by decide) (by decide) (vl rfl) ⟨_, rfl, full_le _ _⟩ (map_rows fun _ => rfl) (Nat.zero_lt_succ _) (by simp only [List.length_map, List.length_cons, List.length_nil]; unfold maxLen; omega) (by simp only [List.length_map, List.length_cons, List.length_nil]; omega)) (fun v4 => ?_)
 refine tm rfl (TO.nil ?_)
 exact Fin.famD2V1 (m3 ++ [⟨((k : Nat) : Int), 2, 2, 0, ⟨0, 0, 0, []⟩⟩]) (_) v4 (⟨by simp; omega, hm_m3.snoc ⟨by show 0 ≤ ((k : Nat) : Int); omega, by show ((k : Nat) : Int) < _; omega, by dsimp only; omega⟩⟩) ⟨⟨_, rfl, lens_le (by simp)⟩, ke rfl, ke rfl, ke rfl, ke rfl, ke rfl, ke rfl, ke rfl, ke rfl, ke rfl, trivial⟩ (fun _ _ h => (by rw [List.map_append]; exact h))
 refine Tr.skip (Fin.famD2V1 (m3) (_) v3 (⟨by omega, hm_m3⟩) ⟨⟨_, rfl, lens_le (by simp)⟩, ke rfl, ke rfl, ke rfl, ke rfl, ke rfl, ke rfl, ke rfl, ke rfl, ke rfl, trivial⟩ (fun _ _ h => h))
 have q9 := Nrm.nrm h9
 refine TO.noG rfl rfl rfl (ne_true h9) rfl (by decide) (TO.noG rfl rfl rfl (ne_true h9) rfl (by decide) (TO.noG rfl rfl rfl (ne_true h9) rfl (by decide) (tp rfl (kpf rfl rfl h9 rfl) (TO.nil (Fin.go (wk11 0 5 6 7 8 9 10 23 24 25 84 rfl (Tr.cond rfl (fun h => nomatch h) (fun _ => ?_))))))))
 refine Tr.skip (Fin.famD2V1 (m3) (_) v3 (⟨by omega, hm_m3⟩) ⟨⟨_, rfl, lens_le (by simp)⟩, ke rfl, ke rfl, ke rfl, ke rfl, ke rfl, ke rfl, ke rfl, ke rfl, ke rfl, trivial⟩ (fun _ _ h => h))
 have q8 := Nrm.nrm h8
 refine TO.noG rfl rfl rfl (ne_true h8) rfl (by decide) (TO.noG rfl rfl rfl (ne_true h8) rfl (by decide) (TO.noG rfl rfl rfl (ne_true h8) rfl (by decide) (tp rfl (kpf rfl rfl h8 rfl) (tm rfl (TO.noG rfl rfl rfl (ne_true rfl) rfl (by decide) (TO.noG rfl rfl rfl (ne_true rfl) rfl (by decide) (TO.noG rfl rfl rfl (ne_true rfl) rfl (by decide) (tp rfl (kpf rfl rfl rfl rfl) (TO.nil (Fin.go (wk11 0 5 6 7 8 9 10 23 24 25 84 rfl (Tr.cond rfl (fun h => nomatch h) (fun _ => ?_)))))))))))))
 refine Tr.skip (Fin.famD2V1 (m3) (_) v3 (⟨by omega, hm_m3⟩) ⟨⟨_, rfl, lens_le (by simp)⟩, ke rfl, ke rfl, ke rfl, ke rfl, ke rfl, ke rfl, ke rfl, ke rfl, ke rfl, trivial⟩ (fun _ _ h => h))
 rintro m4 s6 v4 ⟨hl_m4, hm_m4⟩
 refine Tr.seq (Tr.reg0 (cm rfl (cm rfl ?_)))
 refine Ch.cs 91 rfl ?_ ?_ <;> intro h11 q11
 refine cy h11 rfl (kfa rfl fo32_2 rfl rfl) (cy h11 rfl (kl1 rfl one3 rfl) (cy h11 rfl (ki rfl rfl rfl rfl) (co rfl (kpt rfl rfl h11 rfl) (Ch.nil (Fin.go (wk10 0 5 6 7 8 9 23 24 25 95 rfl ?_))))))
 refine Tr.cn rfl ?_ ?_ <;> intro h12 q12
 refine Tr.regT (tm rfl (tm rfl (tp rfl (ok_build (rows := [(0, [_]), (1, [_]), (2, [_])]) rfl bl29 zo29 ⟨⟨rfl, (VL.le (vl rfl) (one_cellsP _))⟩, ⟨⟨rfl, (VL.le (vl rfl) (one_cellsP _))⟩, ⟨⟨rfl, (VL.le (vl rfl) (one_cellsP _))⟩, trivial⟩⟩⟩ rfl) (tm rfl (tp rfl (ok_build (rows := [(0, [_]), (1, [_]), (2, [_])]) rfl bl29 zo29 ⟨⟨rfl, (VL.le (vl rfl) (one_cellsP _))⟩, ⟨⟨rfl, (VL.le (vl rfl) (one_cellsP _))⟩, ⟨⟨rfl, (VL.le (vl rfl) (one_cellsP _))⟩, trivial⟩⟩⟩ rfl) (tp rfl (ok_buildSlice (xs := [.tmp 98, .tmp 100]) (rows := [rowX ⟨((k : Nat) : Int), 3, 4, 0, ⟨0, 0, 0, []⟩⟩, rowX ⟨((k : Nat) : Int), 1, 14, 0, ⟨0, 0, 0, []⟩⟩]) rfl rfl Tryz.underlying47 sz29 z29 rfl (by decide) ⟨⟨(by exact rfl), VL.le (vl rfl) (Pr.le_trans (agg_le (qs := rowX _) ⟨Pr.le_refl _, Pr.le_refl _, Pr.le_refl _, Pr.le_refl _, Pr.le_refl _, Pr.le_refl _, Pr.le_refl _, nil_chE, trivial⟩) (agg_cellsP _))⟩, ⟨⟨(by exact rfl), VL.le (vl rfl) (Pr.le_trans (agg_le (qs := rowX _) ⟨Pr.le_refl _, Pr.le_refl _, Pr.le_refl _, Pr.le_refl _, Pr.le_refl _, Pr.le_refl _, Pr.le_refl _, nil_chE, trivial⟩) (agg_cellsP _))⟩, trivial⟩⟩ (by decide)) ?_))))))
 refine TO.efs 0 rfl rfl (by decide) (ef_appmut rfl rfl (by decide) rfl Tryz.underlying47 sz29 by29 z29 rfl (by decide) (by decide) (vl rfl) ⟨_, rfl, full_le _ _⟩ (map_rows fun _ => rfl) (Nat.zero_lt_succ _) (by simp only [List.length_map, List.length_cons, List.length_nil]; unfold maxLen; omega) (by simp only [List.length_map, List.length_cons, List.length_nil]; omega)) (fun v5 => ?_)
 refine tm rfl (TO.nil (Fin.block (Fin.go (wk8 0 5 6 7 8 23 24 25 rfl (Tr.reg0 (cad rfl rfl rfl rfl (by omega) (cm rfl (Ch.nil ?_))))))))
 exact Fin.famD3V1 (k + 1) (m4 ++ [⟨((k : Nat) : Int), 3, 4, 0, ⟨0, 0, 0, []⟩⟩, ⟨((k : Nat) : Int), 1, 14, 0, ⟨0, 0, 0, []⟩⟩]) (_) v5 (⟨⟨by omega, by simp; omega, hm_m4.two ⟨by show 0 ≤ ((k : Nat) : Int); omega, by show ((k : Nat) : Int) < _; omega, by dsimp only; omega⟩ ⟨by show 0 ≤ ((k : Nat) : Int); omega, by show ((k : Nat) : Int) < _; omega, by dsimp only; omega⟩⟩, by omega⟩) ⟨⟨_, rfl, int_succ k⟩, ⟨_, rfl, lens_le (by simp)⟩, ke rfl, ke rfl, ke rfl, ke rfl, ke rfl, ke rfl, trivial⟩ (fun _ _ h => (by rw [List.map_append]; exact h))
 refine Tr.skip (Fin.block (Fin.go (Tr.reg0 (cad rfl rfl rfl rfl (by omega) (cm rfl (Ch.nil (Fin.famD3V1 (k + 1) (m4) (_) v4 (⟨⟨by omega, by omega, hm_m4⟩, by omega⟩) ⟨⟨_, rfl, int_succ k⟩, ⟨_, rfl, lens_le (by simp)⟩, ke rfl, ke rfl, ke rfl, ke rfl, ke rfl, ke rfl, trivial⟩ (fun _ _ h => h))))))))
 refine cnt h11 rfl (cnt h11 rfl (cnt h11 rfl (co rfl (kpf rfl rfl h11 rfl) (Ch.nil (Fin.go (wk10 0 5 6 7 8 9 23 24 25 95 rfl (Tr.cond rfl (fun h => nomatch h) (fun _ => ?_))))))))
 refine Tr.skip (Fin.block (Fin.go (Tr.reg0 (cad rfl rfl rfl rfl (by omega) (cm rfl (Ch.nil (Fin.famD3V1 (k + 1) (m4) (_) v4 (⟨⟨by omega, by omega, hm_m4⟩, by omega⟩) ⟨⟨_, rfl, int_succ k⟩, ⟨_, rfl, lens_le (by simp)⟩, ke rfl, ke rfl, ke rfl, ke rfl, ke rfl, ke rfl, trivial⟩ (fun _ _ h => h))))))))
 have := h1
 refine Tr.exit (Fin.then_exit (Fin.then_exit (Fin.block_here (Fin.go (Tr.seq (Tr.block ?_))))))
 rcases Nat.eq_zero_or_pos ms.length with h0 | h0
 refine Tr.loopw [(0, _)] ⟨ke rfl, trivial⟩ (fun _ => [(5, andIs v (lens (ms.map rowX).length))]) (fun _ => True) (fun _ => 0) () (trivial) ⟨ke rfl, trivial⟩ ?_
 rintro _ _
 refine Tr.seq (Tr.seq (Tr.reg0 (cm rfl (co rfl (okb_lens rfl Tryz.underlying47 ⟨_, rfl, andIs_le _ _⟩) (co rfl (ki rfl rfl rfl rfl) (Ch.nil (Fin.go ?_)))))))
 refine Tr.cn rfl ?_ ?_ <;> intro h13 q13
 exfalso; have h_ := Nrm.nrm h13; rw [List.length_map] at h_; omega
 have := h13
 refine Tr.exit (Fin.then_exit (Fin.then_exit (Fin.block_here (Fin.go (Tr.seq (Tr.seq ?_))))))
 have hv4 := s2.val_in (n := 4) (by omega)
 refine Tr.regT (tm rfl (TO.efc 1 rfl rfl (by decide) (ef_callc rfl rfl (by decide) rfl (w_DNext (by omega) (by omega)) ⟨ke rfl, ke rfl, trivial⟩) (tm rfl (TO.nil (Fin.go (Tr.block (Tr.loopD2V0 [(0, _)] ⟨ke rfl, trivial⟩ (fun (q : Int) (s9 : DS) => [(11, int q), (5, andIs v (lens (ms.map rowX).length))]) (fun (q : Int) (s9 : DS) => Hp M0 w0 S (ownRes 29 8 (ms.map rowX) v :: diceS b s9 :: extRes M1 w1 :: rs)) (fun (q : Int) (s9 : DS) => True) (fun (q : Int) (s9 : DS) => q.toNat) (_) (_)  (trivial) ⟨ke rfl, ke rfl, trivial⟩ (fun _ _ h => h) ?_)))))))
 rintro q s9  _
 refine Tr.seq (Tr.seq (Tr.reg0 (cm rfl (co rfl (ki rfl rfl rfl rfl) (cm rfl ?_)))))
 refine Ch.cs 116 rfl ?_ ?_ <;> intro h14 q14
 refine cym h14 rfl (cy h14 rfl (okb_lens rfl Tryz.underlying47 ⟨_, rfl, andIs_le _ _⟩) (cy h14 rfl (ki rfl rfl rfl rfl) (co rfl (kpt rfl rfl h14 rfl) (Ch.nil (Fin.go ?_)))))
 refine Tr.cn rfl ?_ ?_ <;> intro h15 q15
 exfalso; have h_ := Nrm.nrm h15; rw [List.length_map] at h_; omega
 have := h15
 refine Tr.exit (Fin.then_exit (Fin.then_exit (Fin.block_here (Fin.go (Tr.seq (Tr.frzG 0 5 rfl rfl (map_rows fun _ => rfl) (Tr.reg0 (cm rfl (cm rfl (Ch.nil (Fin.go (Tr.ret (Fin.closeD 1 _ rfl rfl (Fin.retY1 [_] rfl (RVal.tmp rfl (Pr.le_refl _)) ?_ (fun _ _ _ _ => rfl)))))))))))))))
 · exact Pr.le_trans (andIs_le _ _) (mov_ex hm_ms (by omega))
 refine cnt h14 rfl (cnt h14 rfl (cnt h14 rfl (co rfl (kpf rfl rfl h14 rfl) (Ch.nil (Fin.go (Tr.cond rfl (fun h => nomatch h) (fun _ => ?_)))))))
 refine Tr.exit (Fin.then_exit (Fin.then_exit (Fin.block_here (Fin.go (Tr.seq (Tr.frzG 0 5 rfl rfl (map_rows fun _ => rfl) (Tr.reg0 (cm rfl (cm rfl (Ch.nil (Fin.go (Tr.ret (Fin.closeD 1 _ rfl rfl (Fin.retY1 [_] rfl (RVal.tmp rfl (Pr.le_refl _)) ?_ (fun _ _ _ _ => rfl)))))))))))))))
 · exact Pr.le_trans (andIs_le _ _) (mov_ex hm_ms (by omega))
 refine Tr.openG (sz := 8) 0 rfl (by intro h_; simp at h_; rw [h_] at h0; simp at h0) fun b9 cap9 sp9 hv9 hg9 hm9 hs9 => ?_
 subst hv9
 rw [List.length_map] at hg9 hs9
 refine Tr.loopD1V0 [(0, _)] ⟨ke rfl, trivial⟩ (fun (m : Nat) => [(5, is (.slice (some ⟨b9, 0, none⟩) m cap9))]) (fun (m : Nat) => Hp M0 w0 S (cellsRes true b9 29 ((ms.map rowX).flatten ++ sp9.map is) :: diceS b s2 :: extRes M1 w1 :: rs)) (fun (m : Nat) => 1 ≤ m ∧ m ≤ ms.length) (fun (m : Nat) => m) (ms.length)  (⟨h0, Nat.le_refl _⟩) ⟨⟨_, rfl, Pr.le_trans (andIs_is _ _) (Pr.le_of_eq (by rw [List.length_map]))⟩, trivial⟩ (fun _ _ h => h) ?_
 rintro m  ⟨hm1, hm2⟩
 refine Tr.seq (Tr.seq (Tr.reg0 (cm rfl (co rfl (okb_len rfl Tryz.underlying47 (vl rfl)) (co rfl (ki rfl rfl rfl rfl) (Ch.nil (Fin.go ?_)))))))
 refine Tr.cn rfl ?_ ?_ <;> intro h16 q16
 have hm7 : 7 < m := by have := Nrm.nrm h16; omega
 refine Tr.skip (Fin.go (Tr.block (Tr.reg0 (cm rfl (cm rfl (co rfl (okb_len rfl Tryz.underlying47 (vl rfl)) (csu rfl rfl rfl rfl (by omega) (co rfl (okb_sliceTo rfl Tryz.underlying47 sz29 (vl rfl) (vl rfl) (by omega) (by omega) (by omega) (by omega)) (cm rfl (Ch.nil (Fin.block ?_)))))))))))
 exact Fin.famD1V0 (m - 1)  (⟨⟨by omega, by omega⟩, by omega⟩) ⟨⟨_, rfl, Pr.le_of_eq (by congr 2; omega)⟩, ke rfl, trivial⟩ (fun _ _ h => h)
 have hm7 : m ≤ 7 := by have := Nrm.nrm h16; omega
 refine Tr.exit (Fin.then_exit (Fin.then_exit (Fin.block_here (Fin.go (Tr.seq (Tr.seq ?_))))))
 have hv4 := s2.val_in (n := 4) (by omega)
 refine Tr.regT (tm rfl (TO.efc 1 rfl rfl (by decide) (ef_callc rfl rfl (by decide) rfl (w_DNext (by omega) (by omega)) ⟨ke rfl, ke rfl, trivial⟩) (tm rfl (TO.nil (Fin.go (Tr.block (Tr.loopD3V0 [(0, _)] ⟨ke rfl, trivial⟩ (fun (q : Int) (ns : List Chg) (s9 : DS) => [(11, int q), (5, is (.slice (some ⟨b9, 0, none⟩) m cap9))]) (fun (q : Int) (ns : List Chg) (s9 : DS) => Hp M0 w0 S (cellsRes true b9 29 ((ns.map rowX).flatten ++ sp9.map is) :: diceS b s9 :: extRes M1 w1 :: rs)) (fun (q : Int) (ns : List Chg) (s9 : DS) => (ns.length = ms.length ∧ q ≤ 3) ∧ MovX e.eps ns) (fun (q : Int) (ns : List Chg) (s9 : DS) => q.toNat) (_) (ms) (_)  (⟨⟨rfl, by omega⟩, hm_ms⟩) ⟨ke rfl, ke rfl, trivial⟩ (fun _ _ h => h) ?_)))))))
 rintro q ns s9  ⟨⟨hn1, hn3⟩, hn2⟩
 refine Tr.seq (Tr.seq (Tr.reg0 (cm rfl (co rfl (ki rfl rfl rfl rfl) (cm rfl ?_)))))
 refine Ch.cs 116 rfl ?_ ?_ <;> intro h17 q17
 refine cym h17 rfl (cy h17 rfl (okb_len rfl Tryz.underlying47 (vl rfl)) (cy h17 rfl (ki rfl rfl rfl rfl) (co rfl (kpt rfl rfl h17 rfl) (Ch.nil (Fin.go ?_)))))
 refine Tr.cn rfl ?_ ?_ <;> intro h18 q18
 have hq1 := Nrm.nrm h18
 refine Tr.skip (Fin.go (Tr.seq (Tr.block (Tr.seq ?_))))
 have hvm := s9.val_in (n := ((m : Nat) : Int) - 1) (by omega)
 refine Tr.regT (tm rfl (tm rfl (tp rfl (okb_len rfl Tryz.underlying47 (vl rfl)) ?_)))
 refine tp rfl (ok_sub rfl (vl rfl) (vl rfl) ?hin) ?_; case hin => unfold InI; omega
 refine TO.efc 1 rfl rfl (by decide) (ef_callc rfl rfl (by decide) rfl (w_DNext (by omega) (by omega)) ⟨ke rfl, ke rfl, trivial⟩) (tm rfl (TO.nil (Fin.go (wk4 0 5 11 12 rfl (Tr.regX mixed [none, none, none, none, none, none, none, none, none, some (0, 0, false, 0), none, none, none, some (0, 0, false, 0), none, some (0, 0, true, 0), none, some (0, 0, true, 0)] (by kernel_rfl) ?_)))))
 iterate 4 refine xm rfl ?_
 refine xo rfl (fun _ => ok_add rfl (vl rfl) (vl rfl) ?hin) ?_; case hin => unfold InI; omega
 refine xm rfl (xm rfl ?_)
 refine xo rfl (fun _ => ok_add rfl (vl rfl) (vl rfl) ?hin) ?_; case hin => unfold InI; omega
 refine xo rfl (fun _ => okp_indexSl rfl Tryz.underlying47 sz29 (vl rfl) (vl rfl) (by omega) (by omega)) (xrd 0 rfl rfl (rd_loadA rfl agg29 sz29 (vl rfl) (cells_atG (f := rowX) (fun _ => rfl) (by omega)) rfl) (xm rfl (xm rfl (xo rfl (fun _ => okp_indexSl rfl Tryz.underlying47 sz29 (vl rfl) (vl rfl) (by omega) (by omega)) (xrd 0 rfl rfl (rd_loadA rfl agg29 sz29 (vl rfl) (cells_atG (f := rowX) (fun _ => rfl) (by omega)) rfl) (xo rfl (fun _ => okp_indexSl rfl Tryz.underlying47 sz29 (vl rfl) (vl rfl) (by omega) (by omega)) ?_))))))
 refine Cx.ef0 0 rfl rfl (ef_store rfl rfl (vl rfl) (VL.le (vl rfl) (agg_cellsP _)) sz29 rfl (by rw [cells_len (sz := 8) (fun _ => rfl)]; omega) (cells_setG (f := rowX) (fun _ => rfl) (by omega))) ?_
 refine xo rfl (fun _ => okp_indexSl rfl Tryz.underlying47 sz29 (vl rfl) (vl rfl) (by omega) (by omega)) ?_
 refine Cx.ef0 0 rfl rfl (ef_store rfl rfl (vl rfl) (VL.le (vl rfl) (agg_cellsP _)) sz29 rfl (by rw [cells_len (sz := 8) (fun _ => rfl)]; simp only [List.length_set]; omega) (cells_setG (f := rowX) (fun _ => rfl) (by simp only [List.length_set]; omega))) ?_
 refine Cx.nil ⟨rfl, ?_⟩
 refine FinX.done (AllC.cons (AllC.cons (AllC.cons (AllC.map _)))) (Fin.block (Fin.go (wk3 0 5 11 rfl (Tr.reg0 (cm rfl (csu rfl rfl rfl rfl (by omega) (cm rfl (Ch.nil (Fin.famD3V0 (q - 1) (_) (_)  (⟨⟨⟨(swap_permG (by omega) (by omega)).length_eq.trans hn1, by omega⟩, MovX.perm (swap_permG (by omega) (by omega)) hn2⟩, by omega⟩) ⟨⟨_, rfl, int_eq (by omega)⟩, ke rfl, ke rfl, trivial⟩ (fun _ _ h => h))))))))))
 have := h18
 refine Tr.exit (Fin.then_exit (Fin.then_exit (Fin.block_here (Fin.go (Tr.seq (Tr.eqC 0 (((ns.take m).map rowX).flatten ++ (((ns.drop m).map rowX).flatten ++ sp9.map is)) rfl (by rw [← List.append_assoc, ← List.flatten_append, ← List.map_append, List.take_append_drop]) ?_))))))
 have hnt : (ns.take m).length = m := by rw [List.length_take]; omega
 refine Tr.frzS (sz := 8) ((ns.take m).map rowX) 0 5 rfl rfl (Pr.le_of_eq (by rw [List.length_map, hnt])) (map_rows fun _ => rfl) (by rw [List.length_map]; omega) hm9 (by rw [List.length_append, flat_len (sz := 8) (map_rows fun _ => rfl), List.length_map, List.length_map, List.length_map, List.length_drop]; omega) ?_
 refine Tr.reg0 (cm rfl (cm rfl (Ch.nil (Fin.go (Tr.ret (Fin.closeD 1 _ rfl rfl (Fin.retY1 [_] rfl (RVal.tmp rfl (Pr.le_refl _)) ?_ (fun _ _ _ _ => rfl))))))))
 · exact Pr.le_trans (andIs_le _ _) (mov_ex hn2.take (by omega))
 refine cnt h17 rfl (cnt h17 rfl (cnt h17 rfl (co rfl (kpf rfl rfl h17 rfl) (Ch.nil (Fin.go (Tr.cond rfl (fun h => nomatch h) (fun _ => ?_)))))))
 refine Tr.exit (Fin.then_exit (Fin.then_exit (Fin.block_here (Fin.go (Tr.seq (Tr.eqC 0 (((ns.take m).map rowX).flatten ++ (((ns.drop m).map rowX).flatten ++ sp9.map is)) rfl (by rw [← List.append_assoc, ← List.flatten_append, ← List.map_append, List.take_append_drop]) ?_))))))
 have hnt : (ns.take m).length = m := by rw [List.length_take]; omega
 refine Tr.frzS (sz := 8) ((ns.take m).map rowX) 0 5 rfl rfl (Pr.le_of_eq (by rw [List.length_map, hnt])) (map_rows fun _ => rfl) (by rw [List.length_map]; omega) hm9 (by rw [List.length_append, flat_len (sz := 8) (map_rows fun _ => rfl), List.length_map, List.length_map, List.length_map, List.length_drop]; omega) ?_
 refine Tr.reg0 (cm rfl (cm rfl (Ch.nil (Fin.go (Tr.ret (Fin.closeD 1 _ rfl rfl (Fin.retY1 [_] rfl (RVal.tmp rfl (Pr.le_refl _)) ?_ (fun _ _ _ _ => rfl))))))))
 · exact Pr.le_trans (andIs_le _ _) (mov_ex hn2.take (by omega))
structure SetI (n : Int) (k : Nat) (l : List Int) : Prop where
  at_ : ∀ j, j < l.length → setAt n l j = true
  lt : ∀ x ∈ l, x < (k : Int)
  len : l.length ≤ k
theorem SetI.nil (n : Int) (k : Nat) : SetI n k [] := ⟨fun j hj => by simp at hj, fun x hx => by simp at hx, by simp⟩
theorem SetI.step {n : Int} {k : Nat} {l : List Int} (h : SetI n k l) : SetI n (k + 1) l := ⟨h.at_, fun x hx => by have := h.lt x hx; omega, by have := h.len; omega⟩
theorem SetI.snoc {n : Int} {k : Nat} {l : List Int} (h : SetI n k l) (hk : (k : Int) < n) : SetI n (k + 1) (l ++ [(k : Int)]) := by
  refine ⟨fun j hj => ?_, fun x hx => ?_, by have := h.len; simp; omega⟩
  · rw [List.length_append] at hj; simp at hj
    rcases Nat.lt_or_ge j l.length with hl | hl
    · have := h.at_ j hl
      unfold setAt at this ⊢
      rw [List.getElem?_append_left hl, List.getElem?_append_left (show j - 1 < l.length by omega)]; exact this
    · have : j = l.length := by omega
      subst this
      unfold setAt
      rw [List.getElem?_append_right (Nat.le_refl _), Nat.sub_self]
      rcases Nat.eq_zero_or_pos l.length with hz | hz
      · obtain rfl := List.eq_nil_of_length_eq_zero hz
        simp; omega
      · obtain ⟨y, hy⟩ := Cp.at_ (l := l) (k := l.length - 1) (by omega)
        rw [List.getElem?_append_left (show l.length - 1 < l.length by omega), hy]
        have := h.lt y (List.mem_of_getElem? hy)
        simp; omega
  · rcases List.mem_append.1 hx with hx | hx
    · have := h.lt x hx; omega
    · simp at hx; subst hx; omega
theorem SetI.set {n : Int} {k : Nat} {l : List Int} (h : SetI n k l) : setB n l = true := allI_iff.2 h.at_

theorem w_mvSet {b : Nat} {s : DS} {n : Int} (hn : n ≤ 1000000) : FunM Tryz.prog 30 [ptr b 0, int n] (Cp.ex fun l : List Int => fact (setB n l = true) (ints l)) (diceS b s) (fun _ => diceEx 101 b) := by
 refine FunM.of Tryz.func30 rfl rfl (by exact Nat.le_of_ble_eq_true rfl) fun M0 w0 S rs M1 w1 => ?_
 refine Tr.seq (Tr.reg0 (cm rfl (Ch.nil (Fin.go (Tr.seq (Tr.reg0 (cm rfl (Ch.nil (Fin.go (Tr.seq (Tr.seq (Tr.reg0 (cm rfl ?_)))))))))))))
 refine Ch.nil (Fin.go (Tr.block (Tr.addnil 3 1 (Tr.loopD3V1 [(0, _), (1, _)] ⟨ke rfl, ke rfl, trivial⟩ (fun (k : Nat) (l : List Int) (s2 : DS) v => [(6, int ((k : Nat) : Int)), (5, andIs v (ints l))]) (fun (k : Nat) (l : List Int) (s2 : DS) v => Hp M0 w0 S (appRes 3 1 v :: diceS b s2 :: extRes M1 w1 :: rs)) (fun (k : Nat) (l : List Int) (s2 : DS) => SetI n k l) (fun (k : Nat) (l : List Int) (s2 : DS) => (n - (k : Nat)).toNat) (0) ([]) (_) (.slice none 0 0) (SetI.nil _ _) ⟨ke rfl, ⟨_, rfl, own_nil rfl⟩, trivial⟩ (fun _ _ h => h) ?_))))
 rintro k l s2 v hI
 refine Tr.seq (Tr.seq (Tr.reg0 (cm rfl (cm rfl (co rfl (ki rfl rfl rfl rfl) (Ch.nil (Fin.go ?_)))))))
 refine Tr.cn rfl ?_ ?_ <;> intro h1 q1
 have hkn : ((k : Nat) : Int) < n := Nrm.nrm h1
 have hll := hI.len
 refine Tr.skip (Fin.go (Tr.seq (Tr.block (Tr.seq (Tr.regT (tm rfl (TO.efc 1 rfl rfl (by decide) (ef_callc rfl rfl (by decide) rfl (w_DNext (by omega) (by omega)) ⟨ke rfl, ke rfl, trivial⟩) (tp rfl (ki rfl rfl rfl rfl) (TO.nil (Fin.go ?_))))))))))
 refine Tr.cn rfl ?_ ?_ <;> intro h2 q2
 refine Tr.regT (tm rfl (tm rfl (tp rfl (ok_buildSlice (xs := [.tmp 16]) (rows := [[_]]) rfl rfl Tryz.underlying59 sz3 z3 rfl (by decide) ⟨⟨(by exact rfl), (VL.le (vl rfl) (one_cellsP _))⟩, trivial⟩ (by decide)) ?_)))
 refine TO.efs 0 rfl rfl (by decide) (ef_append rfl rfl (by decide) rfl Tryz.underlying59 sz3 by3 z3 rfl (by decide) ⟨_, rfl, andIs_le _ _⟩ ⟨_, rfl, full_le _ _⟩ (by simp only [List.length_append, List.length_map, List.length_cons, List.length_nil]; unfold maxLen; omega) (by simp only [List.length_append, List.length_map, List.length_cons, List.length_nil]; omega) (appR_is (by exact List.Mem.head _) ⟨_, rfl, andIs_is _ _⟩)) (fun v1 => ?_)
 refine tm rfl (TO.nil (Fin.block (Fin.go (wk4 0 1 5 6 rfl (Tr.reg0 (cm rfl (cad rfl rfl rfl rfl (by omega) (cm rfl (Ch.nil ?_)))))))))
 exact Fin.famD3V1 (k + 1) (l ++ [((k : Nat) : Int)]) (_) v1 (⟨hI.snoc hkn, by omega⟩) ⟨⟨_, rfl, int_succ k⟩, ⟨_, rfl, own_le (by rw [List.map_append]; rfl)⟩, ke rfl, ke rfl, trivial⟩ (fun _ _ h => h)
 refine Tr.skip (Fin.block (Fin.go (Tr.reg0 (cm rfl (cad rfl rfl rfl rfl (by omega) (cm rfl (Ch.nil (Fin.famD3V1 (k + 1) (l) (_) v (⟨hI.step, by omega⟩) ⟨⟨_, rfl, int_succ k⟩, ke rfl, ke rfl, ke rfl, trivial⟩ (fun _ _ h => h)))))))))
 have := h1
 refine Tr.exit (Fin.then_exit (Fin.then_exit (Fin.block_here (Fin.go (Tr.seq (Tr.reg0 (cm rfl (cm rfl (Ch.nil (Fin.go (Tr.ret (Fin.closeD 1 _ rfl rfl (Fin.retY1 [_] rfl (RVal.tmp rfl (Pr.le_refl _)) ?_ (fun _ _ _ _ => rfl))))))))))))))
 · exact ex_in l (fact_in hI.set (andIs_le _ _))
end Go.Proofs.YtppeeogffbpcbaaGreat
namespace Go.Proofs.YtppeeogffbpcbaaGreat
open Go Go.RowKit Cp

def usL : List (Int × Int) := [(2, 0), (1, 0), (5, 2048), (16, 128), (3, 0), (15, 168)]
def usO (v : Int) : Int × Int := usL[v.toNat]?.getD (2, 0)
theorem us_at {v : Int} (h : 0 ≤ v ∧ v < 6) : (usL.map fun u => [int u.1, int u.2])[v.toNat]? = some [int (usO v).1, int (usO v).2] := by
  have hl : v.toNat < usL.length := by show v.toNat < 6; omega
  unfold usO; rw [List.getElem?_map, List.getElem?_eq_getElem hl]; rfl
theorem us_all : ∀ u ∈ usL, strength u.1 u.2 > 0 := by decide +kernel
theorem us_ok (v : Int) : strength (usO v).1 (usO v).2 > 0 := by
  unfold usO
  cases h : usL[v.toNat]? with
  | none => decide +kernel
  | some u => exact us_all u (List.mem_of_getElem? h)
def linksF : Nat → DS → Int → List Lnk → List Lnk × Int × DS
  | 0, s, day, l => (l, day, s)
  | k + 1, s, day, l => linksF k s.adv.adv (day + 1 + s.adv.of [5, 30, 0, 100]) (l ++ [⟨(usO (s.val 6)).1, (usO (s.val 6)).2, day⟩])
abbrev itmRun (s : DS) : List Lnk × Int × DS := linksF (1 + s.adv.adv.adv.val 3).toNat s.adv.adv.adv.adv (s.adv.adv.val 20) []
def itemF (s : DS) (name : List UInt8) : Itm := ⟨name, 1 + s.val 2, 1 + s.adv.val 4, (itmRun s).1, ((itmRun s).1[0]?.getD zeroL).day + (itmRun s).2.2.of [50, 300, 0, 3000]⟩
def itemS (s : DS) : DS := (itmRun s).2.2.adv
/-- What such links are. -/
structure LnkI (l : List Lnk) (day : Int) : Prop where
  lo : 0 ≤ day
  hi : day ≤ 20 + 101 * (l.length : Nat)
  at_ : ∀ j, j < l.length → linkAt l j = true
  lt : ∀ x ∈ l, x.day < day
theorem lnk_snoc {l : List Lnk} {day d : Int} {u : Int × Int} (h : LnkI l day) (h3 : l.length ≤ 3) (hu : strength u.1 u.2 > 0) (hd : 0 ≤ d ∧ d ≤ 100) : LnkI (l ++ [⟨u.1, u.2, day⟩]) (day + 1 + d) := by
  have h0 := h.lo; have h1 := h.hi
  refine ⟨by omega, by rw [List.length_append]; simp; omega, fun j hj => ?_, fun x hx => ?_⟩
  · rw [List.length_append] at hj; simp at hj
    rcases Nat.lt_or_ge j l.length with hl | hl
    · have := h.at_ j hl
      unfold linkAt at this ⊢
      rw [List.getElem?_append_left hl, List.getElem?_append_left (show j - 1 < l.length by omega)]; exact this
    · have : j = l.length := by omega
      subst this
      unfold linkAt
      rw [List.getElem?_append_right (Nat.le_refl _), Nat.sub_self]
      rcases Nat.eq_zero_or_pos l.length with hz | hz
      · obtain rfl := List.eq_nil_of_length_eq_zero hz
        simp [hu]; simp at h1; omega
      · obtain ⟨y, hy⟩ := at_ (l := l) (k := l.length - 1) (by omega)
        rw [List.getElem?_append_left (show l.length - 1 < l.length by omega), hy]
        have := h.lt y (List.mem_of_getElem? hy)
        simp [hu]; omega
  · rcases List.mem_append.1 hx with hx | hx
    · have := h.lt x hx; omega
    · simp at hx; subst hx; show day < _; omega
theorem of_530 (s : DS) : 0 ≤ s.of [5, 30, 0, 100] ∧ s.of [5, 30, 0, 100] ≤ 100 := by have := s.of_mem (l := [5, 30, 0, 100]) (by simp); simp at this; omega
theorem of_503 (s : DS) : 0 ≤ s.of [50, 300, 0, 3000] ∧ s.of [50, 300, 0, 3000] ≤ 3000 := by have := s.of_mem (l := [50, 300, 0, 3000]) (by simp); simp at this; omega
theorem linksF_ok : ∀ (k : Nat) (s : DS) (day : Int) (l : List Lnk), LnkI l day → l.length + k ≤ 3 → LnkI (linksF k s day l).1 (linksF k s day l).2.1 ∧ (linksF k s day l).1.length = l.length + k
  | 0, s, day, l, h, _ => ⟨h, rfl⟩
  | k + 1, s, day, l, h, hk => by
    have := linksF_ok k s.adv.adv (day + 1 + s.adv.of [5, 30, 0, 100]) (l ++ [⟨(usO (s.val 6)).1, (usO (s.val 6)).2, day⟩]) (lnk_snoc h (by omega) (us_ok _) (of_530 _)) (by simp; omega)
    refine ⟨this.1, ?_⟩
    show (linksF k _ _ _).1.length = _
    rw [this.2]; simp; omega
/-- What such an item is. -/
structure ItmS (x : Itm) : Prop where
  ok : itemB x = true
  name : x.name.length ≤ 32
  links : x.links.length ≤ 3
theorem item_ok {s : DS} {name : List UInt8} (hn : named name = true) : ItmS (itemF s name) := by
  have h2 := s.val_in (n := 2) (by omega)
  have h4 := s.adv.val_in (n := 4) (by omega)
  have h20 := s.adv.adv.val_in (n := 20) (by omega)
  have h3 := s.adv.adv.adv.val_in (n := 3) (by omega)
  have hI : LnkI [] (s.adv.adv.val 20) := ⟨by omega, by simp; omega, fun j hj => by simp at hj, fun x hx => by simp at hx⟩
  obtain ⟨hL, hl⟩ := linksF_ok (1 + s.adv.adv.adv.val 3).toNat s.adv.adv.adv.adv (s.adv.adv.val 20) [] hI (by simp; omega)
  simp only [List.length_nil, Nat.zero_add] at hl
  have hlen : (itmRun s).1.length = (1 + s.adv.adv.adv.val 3).toNat := hl
  have hu := of_503 (itmRun s).2.2
  obtain ⟨c, hc⟩ := at_ (l := (itmRun s).1) (k := 0) (by omega)
  have hg := getD_at (d := zeroL) hc
  have hc1 := hL.lt c (List.mem_of_getElem? hc)
  have hc2 := hL.hi
  refine ⟨item_iff.2 ⟨hn, ?_, ?_, ?_, ?_, ?_, hL.at_, ?_, ?_⟩, named_len hn, ?_⟩
  · show 1 + s.val 2 = 1 ∨ 1 + s.val 2 = 2; omega
  · show 1 ≤ 1 + s.adv.val 4; omega
  · show 1 + s.adv.val 4 ≤ 4; omega
  · show 1 ≤ (itmRun s).1.length; omega
  · show (itmRun s).1.length ≤ 8; omega
  · show ((itmRun s).1[0]?.getD zeroL).day ≤ ((itmRun s).1[0]?.getD zeroL).day + _; omega
  · show ((itmRun s).1[0]?.getD zeroL).day + _ ≤ 40000; rw [hg]; omega
  · show (itmRun s).1.length ≤ 3; omega

theorem w_ItemF {b : Nat} {s : DS} {name : List UInt8}  : FunM Tryz.prog 67 [ptr b 0, str name] (agg (rowIt (itemF s name))) (diceS b s) (fun _ => diceS b (itemS s)) := by
 refine FunM.of Tryz.func67 rfl rfl (by exact Nat.le_of_ble_eq_true rfl) fun M0 w0 S rs M1 w1 => ?_
 have hv2 := s.val_in (n := 2) (by omega)
 have hv4 := s.adv.val_in (n := 4) (by omega)
 have hv20 := s.adv.adv.val_in (n := 20) (by omega)
 have hv3 := s.adv.adv.adv.val_in (n := 3) (by omega)
 refine Tr.seq (Tr.regT ?_)
 refine TO.alloc rfl rfl (by decide) rfl z107 zo107 (fun b1 => ?_)
 refine ao ?_
 refine ao ?_
 refine TO.efc 1 rfl rfl (by decide) (ef_callc rfl rfl (by decide) rfl (w_DNext (by omega) (by omega)) ⟨ke rfl, ke rfl, trivial⟩) ?_
 refine ao ?_
 refine TO.efc 1 rfl rfl (by decide) (ef_callc rfl rfl (by decide) rfl (w_DNext (by omega) (by omega)) ⟨ke rfl, ke rfl, trivial⟩) ?_
 refine ao ?_
 refine TO.alloc rfl rfl (by decide) rfl z107 zo107 (fun b2 => ?_)
 refine TO.store_all 0 rfl rfl rfl (vl rfl) (VL.le (vl rfl) (agg_cellsP _)) rfl sz107 rfl rfl ?_
 refine ao ?_
 refine ao ?_
 refine TO.efc 2 rfl rfl (by decide) (ef_callc rfl rfl (by decide) rfl (w_DNext (by omega) (by omega)) ⟨ke rfl, ke rfl, trivial⟩) ?_
 refine ao ?_
 refine wk4 0 4 5 6 rfl ?_
 refine ao ?_
 refine TO.efc 2 rfl rfl (by decide) (ef_callc rfl rfl (by decide) rfl (w_DNext (by omega) (by omega)) ⟨ke rfl, ke rfl, trivial⟩) ?_
 refine ao ?_
 refine Tr.block (Tr.reC 0 [str name, int (1 + s.val 2), int (1 + s.adv.val 4), andIs (.slice none 0 0) (lnks []), is (.int .i64 0)] rfl ⟨Pr.le_refl _, Pr.le_refl _, Pr.le_refl _, own_nil rfl, Pr.le_refl _, trivial⟩ (Tr.addnil 152 3 ?_))
 refine Tr.loopD4V1 [(0, _), (4, _), (5, _)] ⟨ke rfl, ke rfl, ke rfl, trivial⟩ (fun (k : Int) (day : Int) (l : List Lnk) (s2 : DS) v => [(7, int k), (6, int day)]) (fun (k : Int) (day : Int) (l : List Lnk) (s2 : DS) v => Hp M0 w0 S (appRes 152 3 v :: cellsRes true b2 107 [str name, int (1 + s.val 2), int (1 + s.adv.val 4), andIs v (lnks l), is (.int .i64 0)] :: cellsRes true b1 107 (([.string (ByteArray.mk #[]), .int .i64 0, .int .i64 0, .slice none 0 0, .int .i64 0] : List Value).map is) :: diceS b s2 :: extRes M1 w1 :: rs)) (fun (k : Int) (day : Int) (l : List Lnk) (s2 : DS) => (0 ≤ k ∧ k + l.length ≤ 3 ∧ 1 ≤ k + l.length ∧ LnkI l day) ∧ linksF k.toNat s2 day l = itmRun s) (fun (k : Int) (day : Int) (l : List Lnk) (s2 : DS) => k.toNat) (_) (_) ([]) (_) (.slice none 0 0) (⟨⟨by omega, by simp; omega, by simp; omega, ⟨by omega, by simp; omega, fun j hj => by simp at hj, fun x hx => by simp at hx⟩⟩, rfl⟩) ⟨ke rfl, ke rfl, trivial⟩ (fun _ _ h => h) ?_
 rintro k day l s2 v ⟨⟨hk0, hk1, hk2, hL⟩, hR⟩
 have hL0 := hL.lo
 have hL1 := hL.hi
 have hof := of_530 s2.adv
 refine ac ?_
 refine Tr.cn rfl ?_ ?_ <;> intro h1 q1
 have hk3 : 0 < k := of_decide_eq_true h1
 have hv6 := s2.val_in (n := 6) (by omega)
 refine ac ?_
 refine ao ?_
 refine TO.efc 3 rfl rfl (by decide) (ef_callc rfl rfl (by decide) rfl (w_DNext (by omega) (by omega)) ⟨ke rfl, ke rfl, trivial⟩) ?_
 refine tp rfl (ok_indexAddr rfl Tryz.underlying114 sz24 ⟨_, rfl, full_le _ _⟩ (vl rfl) (by omega) (show (usL.map fun u => [int u.1, int u.2])[_]? = _ from us_at hv6)) ?_
 refine tp rfl (ok_loadA rfl agg24 sz24 (vl rfl) rfl rfl) ?_
 refine TO.alloc rfl rfl (by decide) rfl z24 zo24 (fun b3 => ?_)
 refine sf 0 8 ⟨rfl, rfl, rfl⟩ rfl rfl rfl rfl ?_
 refine ao ?_
 refine wk6 0 4 5 6 7 8 rfl ?_
 refine ao ?_
 refine TO.efs 0 rfl rfl (by decide) (ef_append rfl rfl (by decide) rfl Tryz.underlying105 sz152 by152 z152 rfl (by decide) ⟨_, rfl, andIs_le _ _⟩ ⟨_, rfl, full_le _ _⟩ (by simp only [List.length_append, List.length_map, List.length_cons, List.length_nil]; unfold maxLen; omega) (by simp only [List.length_append, List.length_map, List.length_cons, List.length_nil]; omega) (appR_is (by exact List.Mem.head _) ⟨_, rfl, andIs_is _ _⟩)) (fun v1 => ?_)
 refine tp rfl (okp_fieldAddr rfl fo107_3 (vl rfl)) (TO.ef0 1 rfl rfl (ef_store rfl rfl (vl rfl) (VL.le (vl rfl) (one_cellsP _)) sz105 rfl (by exact Nat.le_of_ble_eq_true rfl) rfl) ?_)
 refine ao ?_
 refine wk5 0 4 5 6 7 rfl ?_
 refine ao ?_
 refine TO.efc 3 rfl rfl (by decide) (ef_callc rfl rfl (by decide) rfl (w_DOf (l := [5, 30, 0, 100]) (by simp) (by simp)) ⟨ke rfl, ⟨_, rfl, full_le _ _⟩, trivial⟩) ?_
 refine ao ?_
 refine ac ?_
 refine Fin.reC 1 [str name, int (1 + s.val 2), int (1 + s.adv.val 4), andIs v1 (lnks (l ++ [(⟨(usO (s2.val 6)).1, (usO (s2.val 6)).2, day⟩ : Lnk)])), is (.int .i64 0)] rfl ⟨Pr.le_refl _, Pr.le_refl _, Pr.le_refl _, own_le (by rw [List.map_append]; rfl), Pr.le_refl _, trivial⟩ ?_
 exact Fin.famD4V1 (k - 1) (_) (l ++ [(⟨(usO (s2.val 6)).1, (usO (s2.val 6)).2, day⟩ : Lnk)]) (_) v1 (⟨⟨⟨by omega, by simp; omega, by simp; omega, lnk_snoc hL (by omega) (us_ok _) (of_530 _)⟩, by rw [← hR, show k.toNat = (k - 1).toNat + 1 by omega]; rfl⟩, by omega⟩) ⟨⟨_, rfl, int_eq (by omega)⟩, ⟨_, rfl, int_eq (by omega)⟩, ke rfl, ke rfl, ke rfl, trivial⟩ (fun _ _ h => h)
 have hk3 : ¬ 0 < k := of_decide_eq_false h1
 obtain rfl : k = 0 := by omega
 obtain ⟨c0, hc0⟩ := at_ (l := l) (k := 0) (by omega)
 have hg0 := getD_at (d := zeroL) hc0
 have hlt0 := hL.lt c0 (List.mem_of_getElem? hc0)
 have hlo0 : 0 ≤ c0.day := by have h_ := hL.at_ 0 (lt_of_at hc0); unfold linkAt at h_; rw [hg0] at h_; simp at h_; omega
 have hof2 := of_503 s2
 have hR1 : (itmRun s).1 = l := by rw [← hR]; rfl
 obtain rfl : s2 = (itmRun s).2.2 := by rw [← hR]; rfl
 refine ac ?_
 refine Tr.seq (Tr.rx ?_)
 refine ay ?_
 refine xo rfl (fun _ => ok_indexAddr rfl Tryz.underlying105 sz152 ⟨_, rfl, andIs_le _ _⟩ (vl rfl) (by omega) (row_at (k := 0) hc0)) ?_
 refine ay ?_
 refine xo rfl (fun _ => ok_buildSlice (xs := [.const (.int .i64 (50)), .const (.int .i64 (300)), .const (.int .i64 (0)), .const (.int .i64 (3000))]) (rows := [[_], [_], [_], [_]]) rfl rfl Tryz.underlying22 sz3 z3 rfl (by decide) ⟨⟨(by exact rfl), (VL.le (vl rfl) (one_cellsP _))⟩, ⟨⟨(by exact rfl), (VL.le (vl rfl) (one_cellsP _))⟩, ⟨⟨(by exact rfl), (VL.le (vl rfl) (one_cellsP _))⟩, ⟨⟨(by exact rfl), (VL.le (vl rfl) (one_cellsP _))⟩, trivial⟩⟩⟩⟩ (by decide)) ?_
 refine Cx.ef 3 rfl rfl (by decide) (ef_callc rfl rfl (by decide) rfl (w_DOf (l := [50, 300, 0, 3000]) (by simp) (by simp)) ⟨ke rfl, ⟨_, rfl, full_le _ _⟩, trivial⟩) ?_
 refine ay ?_
 refine Cx.nil ⟨by kernel_rfl, ?_⟩
 refine FinX.done al5 (Fin.go (wk2 4 5 rfl ?_))
 refine ao ?_
 refine TO.store_all 2 rfl rfl rfl (vl rfl) (VL.le (vl rfl) (agg_cellsP _)) rfl sz107 rfl rfl ?_
 refine ao ?_
 refine Tr.ret (Fin.retY1 [_, _, _] rfl (RVal.cell 2 rfl rfl agg107 sz107 rfl (Pr.le_refl _)) ?_ (fun _ _ _ _ => rfl))
 · exact agg_le ⟨Pr.le_refl _, Pr.le_refl _, Pr.le_refl _, Pr.le_trans (andIs_le _ _) (Pr.le_of_eq (by show _ = lnks (itmRun s).1; rw [hR1])), int_eq (by show _ = ((itmRun s).1[0]?.getD zeroL).day + _; rw [hR1, hg0]), trivial⟩
end Go.Proofs.YtppeeogffbpcbaaGreat
