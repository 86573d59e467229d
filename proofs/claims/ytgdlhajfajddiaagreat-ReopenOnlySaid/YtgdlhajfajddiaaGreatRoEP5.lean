/-
  Part 5 of the texts that prove this claim, merged.
-/
import Derived.Test.YtgdlhajfajddiaaGreatRoEP4
set_option linter.all false
namespace Go.Proofs.YtgdlhajfajddiaaGreat
open Go Go.RowKit Cp

theorem check_noO {f : Fnd} (h : ¬ (if checkF f then (0 : Int) else 24) = 0) : checkF f = false := by
  cases hc : checkF f with
  | false => rfl
  | true => rw [hc] at h; exact absurd rfl h
theorem check_yesO {f : Fnd} (h : (if checkF f then (0 : Int) else 24) = 0) : checkF f = true := by
  cases hc : checkF f with
  | true => rfl
  | false => rw [hc] at h; cases h
/-- The days of findings that are normal. -/
def DaysIn (l : List Fnd) : Prop := ∀ f ∈ l, 0 ≤ f.day ∧ f.day ≤ 40000
theorem days_at {l : List Fnd} (h : DaysIn l) {i : Nat} {f : Fnd} (hf : l[i]? = some f) : 0 ≤ f.day ∧ f.day ≤ 40000 := h f (List.mem_of_getElem? hf)
theorem skip_yes {f g : Fnd} {gap : Int} (h : g.machine = 0 ∨ ¬ g.host = f.host ∨ gap < dist f g) : skipN f g gap = true := by unfold skipN; simpa using h
theorem skip_no {f g : Fnd} {gap : Int} (h1 : ¬ g.machine = 0) (h2 : g.host = f.host) (h3 : ¬ gap < dist f g) : skipN f g gap = false := by unfold skipN; simp [h1, h2]; omega
theorem nearK_get {l : List Fnd} {f : Fnd} {gap : Int} {k : Nat} (hk : k ≤ l.length) (h : 0 ≤ nearK l f gap k) : (nearK l f gap k).toNat < l.length ∧ ∃ b, l[(nearK l f gap k).toNat]? = some b := by
  rcases nearK_in l f gap k with h1 | ⟨_, h2, b, hb, _⟩
  · omega
  · exact ⟨by omega, b, hb⟩
theorem closer_iff {f g b : Fnd} : closer f g b = true ↔ (dist f g < dist f b ∨ dist f g = dist f b ∧ (g.day < b.day ∨ g.day = b.day ∧ g.machine < b.machine)) := by
  unfold closer
  rw [decide_eq_true_eq]
  have e : ∀ a b c : Int, orL [a, b, c] = if a = 0 then (if b = 0 then (if c = 0 then 0 else c) else b) else a := fun a b c => rfl
  rw [e]; unfold cmpI
  (repeat' split) <;> omega

set_option maxRecDepth 20000 in
theorem w_away {a b : Int} (ha : 0 ≤ a ∧ a ≤ 40000) (hb : 0 ≤ b ∧ b ≤ 40000) : Fun Tryz.prog 174 [int a, int b] (int (max (a - b) (b - a))) := by
 refine Fun.of Tryz.func174 rfl rfl (by exact Nat.le_of_ble_eq_true rfl) fun M0 w0 => ?_
 refine Tr.seq (Tr.reg0 (cm rfl (Ch.nil (Fin.go (Tr.seq (Tr.reg0 (cm rfl (cm rfl (csu rfl rfl rfl rfl (by omega) (cm rfl (cm rfl (csu rfl rfl rfl rfl (by omega) (co rfl (ok_max rfl (vl rfl) (vl rfl)) ?_)))))))))))))
 refine cm rfl (Ch.nil (Fin.go (Tr.ret (Fin.ret1 rfl (OutW.bse _ _) rfl ?_))))
 · exact Pr.le_refl _
set_option maxRecDepth 20000 in
theorem w_nearer {f g b : Fnd} (hf : 0 ≤ f.day ∧ f.day ≤ 40000) (hg : 0 ≤ g.day ∧ g.day ≤ 40000) (hb : 0 ≤ b.day ∧ b.day ≤ 40000) : Fun Tryz.prog 175 [agg (rowF g), agg (rowF b), int f.day] (bool (closer f g b)) := by
 refine Fun.of Tryz.func175 rfl rfl (by exact Nat.le_of_ble_eq_true rfl) fun M0 w0 => ?_
 have e1 : dist f g = max (g.day - f.day) (f.day - g.day) := by unfold dist; omega
 have e2 : dist f b = max (b.day - f.day) (f.day - b.day) := by unfold dist; omega
 refine Tr.seq (Tr.reg0 (co rfl (ok_box rfl (VL.le (vl rfl) (agg_cellsP _))) (co rfl (ok_box rfl (VL.le (vl rfl) (agg_cellsP _))) (cm rfl (Ch.nil (Fin.go (Tr.seq (Tr.seq (Tr.reg1 mixed (by kernel_rfl) (co rfl (kfa rfl fo26_3 rfl rfl) (co rfl (kl1 rfl one3 rfl) (cm rfl (co rfl (ok_call rfl (w_away (by assumption) (by assumption)) ⟨ke rfl, ke rfl, trivial⟩) ?_)))))))))))))
 refine co rfl (kfa rfl fo26_3 rfl rfl) (co rfl (kl1 rfl one3 rfl) (cm rfl (co rfl (ok_call rfl (w_away (by assumption) (by assumption)) ⟨ke rfl, ke rfl, trivial⟩) (cm rfl (cm rfl (Ch.nil (Fin.go (Tr.seq (Tr.reg0 (cm rfl (cm rfl (co rfl (ki rfl rfl rfl rfl) (Ch.nil (Fin.go ?_))))))))))))))
 refine wk5 3 4 7 8 19 rfl ?_
 refine Tr.cn rfl ?_ ?_ <;> intro h1 q1
 refine Tr.seq (Tr.reg0 (cm rfl (cm rfl (co rfl (ki rfl rfl rfl rfl) (cm rfl (Ch.nil (Fin.go (Tr.ret (Fin.then_ret (Fin.ret1 rfl (OutW.bse _ _) rfl ?_))))))))))
 · refine bool_eq ?_; rw [Bool.eq_iff_iff, closer_iff, decide_eq_true_eq]; rw [← e1, ← e2] at *; omega
 refine Tr.skip (Fin.go (Tr.seq (Tr.seq (Tr.reg0 (co rfl (kfa rfl fo26_3 rfl rfl) (co rfl (kl1 rfl one3 rfl) (co rfl (kfa rfl fo26_3 rfl rfl) (co rfl (kl1 rfl one3 rfl) (co rfl (ki rfl rfl rfl rfl) (Ch.nil (Fin.go ?_)))))))))))
 refine Tr.cn rfl ?_ ?_ <;> intro h2 q2
 refine Tr.seq (Tr.reg0 (co rfl (kfa rfl fo26_3 rfl rfl) (co rfl (kl1 rfl one3 rfl) (co rfl (kfa rfl fo26_3 rfl rfl) (co rfl (kl1 rfl one3 rfl) (co rfl (ki rfl rfl rfl rfl) (cm rfl (Ch.nil (Fin.go (wk1 6 rfl (Tr.ret (Fin.then_ret (Fin.ret1 rfl (OutW.bse _ _) rfl ?_)))))))))))))
 · refine bool_eq ?_; rw [Bool.eq_iff_iff, closer_iff, decide_eq_true_eq]; rw [← e1, ← e2] at *; omega
 refine Tr.skip (Fin.go (Tr.seq (Tr.reg0 (co rfl (kfa rfl fo26_2 rfl rfl) (co rfl (kl1 rfl one3 rfl) (co rfl (kfa rfl fo26_2 rfl rfl) (co rfl (kl1 rfl one3 rfl) (co rfl (ki rfl rfl rfl rfl) (cm rfl (Ch.nil (Fin.go (wk1 6 rfl (Tr.ret (Fin.ret1 rfl (OutW.bse _ _) rfl ?_))))))))))))))
 · refine bool_eq ?_; rw [Bool.eq_iff_iff, closer_iff, decide_eq_true_eq]; rw [← e1, ← e2] at *; omega
set_option maxRecDepth 20000 in
theorem w_R15near {l : List Fnd} {i : Nat} {f : Fnd} {gap : Int} (hd : DaysIn l) (hi : l[i]? = some f) : Fun Tryz.prog 117 [fnds l, int ((i : Nat) : Int), int gap] (int (near l f gap)) := by
 refine Fun.of Tryz.func117 rfl rfl (by exact Nat.le_of_ble_eq_true rfl) fun M0 w0 => ?_
 refine Tr.lenm 0 rfl fun hlm_0 => ?_
 have hfd := days_at hd hi
 refine Tr.seq (Tr.reg0 (cm rfl (Ch.nil (Fin.go (Tr.seq (Tr.reg0 (cm rfl (Ch.nil (Fin.go (Tr.seq (Tr.seq (Tr.reg0 (cm rfl ?_)))))))))))))
 refine Ch.nil (Fin.go (Tr.block (Tr.loopw [(0, _), (1, _), (2, _)] (kk3 rfl) (fun k : Nat => [(8, int ((k : Nat) : Int)), (7, int (nearK l f gap k))]) (fun k : Nat => k ≤ (l).length) (fun k : Nat => (l).length - k) 0 (Nat.zero_le _) ⟨ke rfl, ke rfl, trivial⟩ ?_)))
 rintro k hle_k
 refine Tr.seq (Tr.seq (Tr.reg0 (cm rfl (cm rfl (co rfl (ok_lenm rfl Tryz.underlying31 (vl rfl)) (co rfl (ki rfl rfl rfl rfl) (Ch.nil (Fin.go ?_))))))))
 refine Tr.cn rfl ?_ ?_ <;> intro h1 q1
 have hk_k : k < (l).length := lt_of_dec h1
 obtain ⟨g, hx_k⟩ := at_ hk_k
 have hgd := days_at hd hx_k
 have e1 : dist f g = max (g.day - f.day) (f.day - g.day) := by unfold dist; omega
 refine Tr.skip (Fin.go (Tr.seq (Tr.block (Tr.seq (Tr.seq (Tr.reg1 mixed (by kernel_rfl) (cm rfl (cm rfl (co rfl (ok_indexAddr rfl Tryz.underlying31 sz26 (vl rfl) (vl rfl) (by omega) (by exact row_at (by assumption))) ?_)))))))))
 refine co rfl (kfa rfl fo26_2 rfl rfl) (co rfl (kl1 rfl one3 rfl) (co rfl (ki rfl rfl rfl rfl) (cm rfl ?_)))
 refine Ch.cs 21 rfl ?_ ?_ <;> intro h2 q2
 iterate 11 refine cnf h2 rfl ?_
 refine co rfl (kpt rfl rfl h2 rfl) (cm rfl ?_)
 iterate 13 refine cnd rfl rfl ?_
 refine co rfl (kpt rfl rfl rfl rfl) (Ch.nil (Fin.go (wk6 0 1 2 7 8 48 rfl (Tr.cond rfl (fun _ => ?_) (fun h => nomatch h)))))
 refine Tr.exit (Fin.then_exit (Fin.block_here (Fin.go (Tr.reg0 (cm rfl (cad rfl rfl rfl rfl (by omega) (cm rfl (Ch.nil (Fin.fam_same (k + 1) ⟨hk_k, by omega⟩ ⟨⟨_, rfl, int_succ k⟩, ⟨_, rfl, int_eq (by exact (nearK_skip hx_k (skip_yes (by exact .inl (by assumption)))).symm)⟩, ke rfl, ke rfl, ke rfl, trivial⟩)))))))))
 refine cym h2 rfl (cym h2 rfl (cy h2 rfl (ok_indexAddr rfl Tryz.underlying31 sz26 (vl rfl) (vl rfl) (by omega) (by exact row_at (by assumption))) ?_))
 refine cy h2 rfl (kfa rfl fo26_1 rfl rfl) (cy h2 rfl (kl1 rfl one9 rfl) (cym h2 rfl (cym h2 rfl (cy h2 rfl (ok_indexAddr rfl Tryz.underlying31 sz26 (vl rfl) (vl rfl) (by omega) (row_at hi)) (cy h2 rfl (kfa rfl fo26_1 rfl rfl) (cy h2 rfl (kl1 rfl one9 rfl) (cy h2 rfl (ok_nes rfl (vl rfl) (vl rfl)) (co rfl (kpf rfl rfl h2 rfl) (cm rfl ?_)))))))))
 refine Ch.cs 34 rfl ?_ ?_ <;> intro h3 q3
 iterate 13 refine cnf h3 rfl ?_
 refine co rfl (kpt rfl rfl h3 rfl) (Ch.nil (Fin.go (wk6 0 1 2 7 8 48 rfl (Tr.cond rfl (fun _ => ?_) (fun h => nomatch h)))))
 refine Tr.exit (Fin.then_exit (Fin.block_here (Fin.go (Tr.reg0 (cm rfl (cad rfl rfl rfl rfl (by omega) (cm rfl (Ch.nil (Fin.fam_same (k + 1) ⟨hk_k, by omega⟩ ⟨⟨_, rfl, int_succ k⟩, ⟨_, rfl, int_eq (by exact (nearK_skip hx_k (skip_yes (by exact .inr (.inl (by assumption))))).symm)⟩, ke rfl, ke rfl, ke rfl, trivial⟩)))))))))
 refine cym h3 rfl (cym h3 rfl (cy h3 rfl (ok_indexAddr rfl Tryz.underlying31 sz26 (vl rfl) (vl rfl) (by omega) (by exact row_at (by assumption))) ?_))
 refine cy h3 rfl (kfa rfl fo26_3 rfl rfl) (cy h3 rfl (kl1 rfl one3 rfl) (cym h3 rfl (cym h3 rfl (cy h3 rfl (ok_indexAddr rfl Tryz.underlying31 sz26 (vl rfl) (vl rfl) (by omega) (row_at hi)) (cy h3 rfl (kfa rfl fo26_3 rfl rfl) (cy h3 rfl (kl1 rfl one3 rfl) (cy h3 rfl (ok_call rfl (w_away (by assumption) (by assumption)) ⟨ke rfl, ke rfl, trivial⟩) (cym h3 rfl (cy h3 rfl (ki rfl rfl rfl rfl) (co rfl (kpf rfl rfl h3 rfl) (Ch.nil (Fin.go (wk6 0 1 2 7 8 48 rfl ?_)))))))))))))
 refine Tr.cn rfl ?_ ?_ <;> intro h4 q4
 refine Tr.exit (Fin.then_exit (Fin.block_here (Fin.go (Tr.reg0 (cm rfl (cad rfl rfl rfl rfl (by omega) (cm rfl (Ch.nil (Fin.fam_same (k + 1) ⟨hk_k, by omega⟩ ⟨⟨_, rfl, int_succ k⟩, ⟨_, rfl, int_eq (by exact (nearK_skip hx_k (skip_yes (by exact .inr (.inr (by omega))))).symm)⟩, ke rfl, ke rfl, ke rfl, trivial⟩)))))))))
 refine Tr.skip (Fin.go (Tr.seq (Tr.reg1 mixed (by kernel_rfl) (cm rfl (co rfl (ki rfl rfl rfl rfl) (cm rfl ?_))))))
 refine Ch.cs 51 rfl ?_ ?_ <;> intro h5 q5
 iterate 14 refine cnf h5 rfl ?_
 refine co rfl (kpt rfl rfl h5 rfl) (Ch.nil (Fin.go (wk6 0 1 2 7 8 66 rfl (Tr.cond rfl (fun _ => ?_) (fun h => nomatch h)))))
 refine Tr.reg0 (cm rfl (cm rfl (Ch.nil (Fin.block (Fin.go (Tr.reg0 (cm rfl (cad rfl rfl rfl rfl (by omega) (cm rfl (Ch.nil (Fin.fam_same (k + 1) ⟨hk_k, by omega⟩ ⟨⟨_, rfl, int_succ k⟩, ⟨_, rfl, int_eq (by exact (nearK_first hx_k (skip_no (by assumption) (by assumption) (by omega)) (by omega)).symm)⟩, ke rfl, ke rfl, ke rfl, trivial⟩)))))))))))
 obtain ⟨hnk, b, hb⟩ := nearK_get (by omega) q5
 have hbd := days_at hd hb
 refine cym h5 rfl (cym h5 rfl (cy h5 rfl (ok_indexAddr rfl Tryz.underlying31 sz26 (vl rfl) (vl rfl) (by omega) (by exact row_at (by assumption))) ?_))
 refine cy h5 rfl (ok_loadA rfl agg26 sz26 (vl rfl) rfl rfl) (cym h5 rfl (cym h5 rfl (cy h5 rfl (ok_indexAddr rfl Tryz.underlying31 sz26 (vl rfl) (vl rfl) (by omega) (row_atI hb)) (cy h5 rfl (ok_loadA rfl agg26 sz26 (vl rfl) rfl rfl) (cym h5 rfl (cym h5 rfl (cy h5 rfl (ok_indexAddr rfl Tryz.underlying31 sz26 (vl rfl) (vl rfl) (by omega) (row_at hi)) (cy h5 rfl (kfa rfl fo26_3 rfl rfl) (cy h5 rfl (kl1 rfl one3 rfl) (cy h5 rfl (ok_call rfl (w_nearer (by assumption) (by assumption) (by assumption)) ⟨ke rfl, ke rfl, ke rfl, trivial⟩) (co rfl (kpf rfl rfl h5 rfl) (Ch.nil (Fin.go ?_)))))))))))))
 refine wk6 0 1 2 7 8 66 rfl ?_
 refine Tr.cn rfl ?_ ?_ <;> intro h6 q6
 refine Tr.reg0 (cm rfl (cm rfl (Ch.nil (Fin.block (Fin.go (Tr.reg0 (cm rfl (cad rfl rfl rfl rfl (by omega) (cm rfl (Ch.nil ?_))))))))))
 exact Fin.fam_same (k + 1) ⟨hk_k, by omega⟩ ⟨⟨_, rfl, int_succ k⟩, ⟨_, rfl, int_eq (by rw [nearK_two hx_k (skip_no (by assumption) (by assumption) (by omega)) (by omega) hb]; simp_all)⟩, ke rfl, ke rfl, ke rfl, trivial⟩
 refine Tr.skip (Fin.block (Fin.go (Tr.reg0 (cm rfl (cad rfl rfl rfl rfl (by omega) (cm rfl (Ch.nil ?_)))))))
 exact Fin.fam_same (k + 1) ⟨hk_k, by omega⟩ ⟨⟨_, rfl, int_succ k⟩, ⟨_, rfl, int_eq (by rw [nearK_two hx_k (skip_no (by assumption) (by assumption) (by omega)) (by omega) hb]; simp_all)⟩, ke rfl, ke rfl, ke rfl, trivial⟩
 have he_k : k = (l).length := by have := ge_of_dec h1; omega
 subst he_k
 refine Tr.exit (Fin.then_exit (Fin.then_exit (Fin.block_here (Fin.go (Tr.seq (Tr.reg0 (cm rfl (cm rfl (Ch.nil (Fin.go (Tr.ret (Fin.ret1 rfl (OutW.bse _ _) rfl ?_))))))))))))
 · exact Pr.le_refl _
set_option maxRecDepth 20000 in
theorem w_R14Normal {l : List Fnd} [Decidable (NormP l)] : Fun Tryz.prog 64 [fnds l] (bool (decide (NormP l))) := by
 refine Fun.of Tryz.func64 rfl rfl (by exact Nat.le_of_ble_eq_true rfl) fun M0 w0 => ?_
 refine Tr.lenm 0 rfl fun hlm_0 => (Tr.seq (Tr.reg0 (cm rfl (Ch.nil (Fin.go (Tr.seq (Tr.seq (Tr.reg0 (cm rfl (co rfl (ok_lenm rfl Tryz.underlying31 (vl rfl)) (co rfl (ki rfl rfl rfl rfl) (Ch.nil (Fin.go ?_)))))))))))))
 refine Tr.cn rfl ?_ ?_ <;> intro h1 q1
 refine Tr.seq (Tr.reg0 (cm rfl (Ch.nil (Fin.go (Tr.ret (Fin.then_ret (Fin.ret1 rfl (OutW.bse _ _) rfl ?_)))))))
 · refine bool_eq ?_; symm; rw [decide_eq_false_iff_not]; intro hn; have := hn.len; omega
 refine Tr.skip (Fin.go (Tr.seq (Tr.seq (Tr.reg0 (cm rfl (Ch.nil (Fin.go (Tr.block (Tr.loopw [(0, _)] ⟨ke rfl, trivial⟩ (fun k : Nat => [(3, int ((k : Nat) : Int))]) (fun k : Nat => k ≤ (l).length ∧ (ChTo l k ∧ AdjTo l k)) (fun k : Nat => (l).length - k) 0 (⟨Nat.zero_le _, ⟨fun j y hj => absurd hj (by omega), fun j a b hj => absurd hj (by omega)⟩⟩) ⟨ke rfl, trivial⟩ ?_)))))))))
 rintro k ⟨hle_k, hinv_k⟩
 refine Tr.seq (Tr.seq (Tr.reg0 (cm rfl (cm rfl (co rfl (ok_lenm rfl Tryz.underlying31 (vl rfl)) (co rfl (ki rfl rfl rfl rfl) (Ch.nil (Fin.go ?_))))))))
 refine Tr.cn rfl ?_ ?_ <;> intro h2 q2
 have hk_k : k < (l).length := lt_of_dec h2
 obtain ⟨x, hx_k⟩ := at_ hk_k
 refine Tr.skip (Fin.go (Tr.seq (Tr.block (Tr.seq (Tr.reg1 mixed (by kernel_rfl) (cm rfl (cm rfl (co rfl (ok_indexAddr rfl Tryz.underlying31 sz26 (vl rfl) (vl rfl) (by omega) (by exact row_at (by assumption))) ?_))))))))
 refine co rfl (ok_loadA rfl agg26 sz26 (vl rfl) rfl rfl) (co rfl (ok_call rfl (w_R14Check) ⟨ke rfl, trivial⟩) (co rfl (ki rfl rfl rfl rfl) (cm rfl ?_)))
 refine Ch.cs 19 rfl ?_ ?_ <;> intro h3 q3
 have hc := check_noO q3
 refine cnf h3 rfl (cnf h3 rfl (cnf h3 rfl ?_))
 iterate 11 refine cu rfl ?_
 refine cnf h3 rfl (co rfl (kpt rfl rfl h3 rfl) (Ch.nil (Fin.go (wk3 0 3 35 rfl (Tr.cond rfl (fun _ => ?_) (fun h => nomatch h))))))
 refine Tr.seq (Tr.reg0 (cm rfl (Ch.nil (Fin.go (Tr.ret (Fin.block_ret (Fin.then_ret (Fin.then_ret (Fin.block_ret (Fin.then_ret (Fin.ret1 rfl (OutW.bse _ _) rfl ?_)))))))))))
 · refine bool_eq ?_; symm; rw [decide_eq_false_iff_not]; intro hn; have := hn.check x (List.mem_of_getElem? hx_k); rw [hc] at this; cases this
 have hc := check_yesO q3
 refine cym h3 rfl (cy h3 rfl (ki rfl rfl rfl rfl) (cym h3 rfl ?_))
 refine Ch.cs 22 rfl ?_ ?_ <;> intro h4 q4
 obtain ⟨p, hp⟩ := at_ (l := l) (k := k - 1) (by omega)
 refine cym h4 rfl (cym h4 rfl ?_)
 refine cy h4 rfl (ok_sub rfl (vl rfl) (vl rfl) ?hin) ?_; case hin => unfold InI; omega
 refine cy h4 rfl (ok_indexAddr rfl Tryz.underlying31 sz26 (vl rfl) (vl rfl) (by omega) (pred_at (by omega) hp)) (cy h4 rfl (ok_loadA rfl agg26 sz26 (vl rfl) rfl rfl) (cym h4 rfl (cym h4 rfl (cy h4 rfl (ok_indexAddr rfl Tryz.underlying31 sz26 (vl rfl) (vl rfl) (by omega) (by exact row_at (by assumption))) ?_))))
 refine cy h4 rfl (ok_loadA rfl agg26 sz26 (vl rfl) rfl rfl) (cy h4 rfl (ok_call rfl (w_R14Order) ⟨ke rfl, ke rfl, trivial⟩) (cy h4 rfl (ki rfl rfl rfl rfl) (cy h3 rfl (kpt rfl rfl h4 rfl) (co rfl (kpf rfl rfl h3 rfl) (Ch.nil (Fin.go (wk3 0 3 35 rfl ?_)))))))
 refine Tr.cn rfl ?_ ?_ <;> intro h5 q5
 refine Tr.seq (Tr.reg0 (cm rfl (Ch.nil (Fin.go (Tr.ret (Fin.block_ret (Fin.then_ret (Fin.then_ret (Fin.block_ret (Fin.then_ret (Fin.ret1 rfl (OutW.bse _ _) rfl ?_)))))))))))
 · refine bool_eq ?_; symm; rw [decide_eq_false_iff_not]; intro hn; have := hn.adj (k - 1) p x hp (by rw [show k - 1 + 1 = k by omega]; exact hx_k); omega
 refine Tr.skip (Fin.block (Fin.go (Tr.reg0 (cm rfl (cad rfl rfl rfl rfl (by omega) (cm rfl (Ch.nil ?_)))))))
 exact Fin.fam_same (k + 1) ⟨⟨hk_k, ⟨ch_step hx_k hc hinv_k.1, adj_step hx_k (by intro y h0 hy; rw [hp] at hy; cases hy; omega) hinv_k.2⟩⟩, by omega⟩ ⟨⟨_, rfl, int_succ k⟩, ke rfl, trivial⟩
 iterate 11 refine cnt h4 rfl ?_
 refine cy h3 rfl (kpf rfl rfl h4 rfl) (co rfl (kpf rfl rfl h3 rfl) (Ch.nil (Fin.go (wk3 0 3 35 rfl (Tr.cond rfl (fun h => nomatch h) (fun _ => ?_))))))
 refine Tr.skip (Fin.block (Fin.go (Tr.reg0 (cm rfl (cad rfl rfl rfl rfl (by omega) (cm rfl (Ch.nil ?_)))))))
 exact Fin.fam_same (k + 1) ⟨⟨hk_k, ⟨ch_step hx_k hc hinv_k.1, adj_step hx_k (by intro y h0 hy; omega) hinv_k.2⟩⟩, by omega⟩ ⟨⟨_, rfl, int_succ k⟩, ke rfl, trivial⟩
 have he_k : k = (l).length := by have := ge_of_dec h2; omega
 subst he_k
 refine Tr.exit (Fin.then_exit (Fin.then_exit (Fin.block_here (Fin.go (Tr.seq (Tr.reg0 (cm rfl (Ch.nil (Fin.go (Tr.ret (Fin.ret1 rfl (OutW.bse _ _) rfl ?_)))))))))))
 · refine bool_eq ?_; symm; rw [decide_eq_true_eq]; exact ⟨ch_all hinv_k.1, adj_all hinv_k.2, by omega⟩
theorem ins_same {α : Type} {c : α → α → Int} (hz : ∀ x y, c x y = 0 ↔ x = y) {l : List α} {x : α} {k : Nat} (hk : k ≤ l.length) (hlt : ∀ (j : Nat) y, j < k → l[j]? = some y → c y x < 0) (hx : l[k]? = some x) : insC c l x = l := by
  have h0 : c x x = 0 := (hz x x).2 rfl
  rw [insC_at hk hlt (fun y hy => by rw [hx] at hy; cases hy; omega), hx]
  simp [h0]
theorem ins_new {α : Type} {c : α → α → Int} (hz : ∀ x y, c x y = 0 ↔ x = y) {l : List α} {x : α} {k : Nat} (hk : k ≤ l.length) (hlt : ∀ (j : Nat) y, j < k → l[j]? = some y → c y x < 0) (h : ∀ y, l[k]? = some y → ¬ c y x < 0 ∧ ¬ y = x) : insC c l x = l.take k ++ [x] ++ l.drop k := by
  rw [insC_at hk hlt (fun y hy => (h y hy).1)]
  cases hy : l[k]? with
  | none => simp
  | some y =>
    have h1 : ¬ c y x = 0 := fun h0 => (h y hy).2 ((hz _ _).1 h0)
    simp [h1]

set_option maxRecDepth 20000 in
theorem w_numberPut {l : List (Int)} {x : Int} (hl : l.length ≤ 1000000) : Fun Tryz.prog 67 [ints l, int x] (ints (insC cmpI l x)) := by
 refine Fun.of Tryz.func67 rfl rfl (by exact Nat.le_of_ble_eq_true rfl) fun M0 w0 => ?_
 refine Tr.seq (Tr.reg0 (cm rfl (Ch.nil (Fin.go (Tr.seq (Tr.reg0 (cm rfl (Ch.nil (Fin.go (Tr.seq (Tr.block (Tr.loopw [(0, _), (1, _)] (kk2 rfl) (fun k : Nat => [(5, int ((k : Nat) : Int))]) (fun k : Nat => k ≤ l.length ∧ ∀ (j : Nat) y, j < k → l[j]? = some y → cmpI y x < 0) (fun k : Nat => l.length - k) 0 (⟨Nat.zero_le _, fun j y h => absurd h (by omega)⟩) ⟨ke rfl, trivial⟩ ?_))))))))))))
 rintro k ⟨hk, hlt⟩
 refine Tr.seq (Tr.seq (Tr.reg0 (cm rfl (cm rfl (co rfl (ok_lenm rfl Tryz.underlying22 (vl rfl)) (co rfl (ki rfl rfl rfl rfl) (cm rfl ?_)))))))
 refine Ch.cs 10 rfl ?_ ?_ <;> intro h1 q1
 obtain ⟨y, hy⟩ := at_ (l := l) (k := k) (by omega)
 refine cym h1 rfl (cym h1 rfl (cy h1 rfl (ok_indexAddr rfl Tryz.underlying22 sz3 (vl rfl) (vl rfl) (by omega) (row_at hy)) (cy h1 rfl (kl1 rfl one3 rfl) (cym h1 rfl (cy h1 rfl (ki rfl rfl rfl rfl) (co rfl (kpt rfl rfl h1 rfl) (Ch.nil (Fin.go (wk4 0 1 5 17 rfl ?_)))))))))
 refine Tr.cn rfl ?_ ?_ <;> intro h2 q2
 have := h2
 refine Tr.skip (Fin.go (Tr.block (Tr.reg0 (cm rfl (cad rfl rfl rfl rfl (by omega) (cm rfl (Ch.nil (Fin.block ?_))))))))
 exact Fin.fam_same (k + 1) ⟨⟨by omega, fun j w h1 h2 => by rcases Nat.lt_or_eq_of_le (show j ≤ k by omega) with h3 | h3; exact hlt j w h3 h2; (subst h3; rw [hy] at h2; cases h2; unfold cmpI; rw [if_pos (by omega)]; omega)⟩, by omega⟩ ⟨⟨_, rfl, int_succ k⟩, ke rfl, ke rfl, trivial⟩
 have := h2
 refine Tr.exit (Fin.then_exit (Fin.then_exit (Fin.block_here (Fin.go (Tr.seq (Tr.seq (Tr.reg0 (cm rfl (cm rfl (co rfl (ok_lenm rfl Tryz.underlying22 (vl rfl)) (co rfl (ki rfl rfl rfl rfl) (cm rfl ?_))))))))))))
 refine Ch.cs 24 rfl ?_ ?_ <;> intro h3 q3
 obtain ⟨z, hz⟩ := at_ (l := l) (k := k) (by omega)
 refine cym h3 rfl (cym h3 rfl (cy h3 rfl (ok_indexAddr rfl Tryz.underlying22 sz3 (vl rfl) (vl rfl) (by omega) (row_at hz)) (cy h3 rfl (kl1 rfl one3 rfl) (cym h3 rfl (cy h3 rfl (ki rfl rfl rfl rfl) (co rfl (kpt rfl rfl h3 rfl) (Ch.nil (Fin.go (wk4 0 1 5 31 rfl ?_)))))))))
 refine Tr.cn rfl ?_ ?_ <;> intro h4 q4
 refine Tr.seq (Tr.reg0 (cm rfl (cm rfl (Ch.nil (Fin.go (Tr.ret (Fin.then_ret (Fin.ret1 rfl (OutW.bse _ _) rfl ?_))))))))
 · rw [ins_same (fun _ _ => cmpI_zero) hk hlt (by rw [hz]; congr 1)]; exact Pr.le_refl _
 refine Tr.skip (Fin.go (Tr.seq (Tr.pad (Tr.regX mixed [none, none, none, none, some (0, 0, true, 37), none, none, some (37, 0, true, 40), none, none, none, some (40, 0, true, 44), some (44, 0, true, 4)] (by kernel_rfl) (xo rfl (fun _ => ok_buildSlice (xs := []) (rows := []) rfl rfl Tryz.underlying22 sz3 z3 rfl (by decide) trivial (by decide)) (xm rfl (xm rfl ?_)))))))
 refine xo rfl (fun _ => ok_sliceTo rfl Tryz.underlying22 sz3 (vl rfl) (vl rfl) (by omega) (by simp; omega)) ?_
 refine Cx.ef 0 rfl rfl (by decide) (ef_append rfl rfl (by decide) rfl Tryz.underlying22 sz3 by3 z3 rfl (by decide) ⟨_, rfl, full_le _ _⟩ (vl rfl) (by simp; unfold maxLen; omega) (by simp; omega) (appR_full (by exact List.Mem.head _) (vl rfl))) ?_
 refine xm rfl (xo rfl (fun _ => ok_buildSlice (xs := [.tmp 38]) (rows := [[_]]) rfl rfl Tryz.underlying22 sz3 z3 rfl (by decide) ⟨⟨(by exact rfl), (VL.le (vl rfl) (one_cellsP _))⟩, trivial⟩ (by decide)) ?_)
 refine Cx.ef 0 rfl rfl (by decide) (ef_append rfl rfl (by decide) rfl Tryz.underlying22 sz3 by3 z3 rfl (by decide) (vl rfl) ⟨_, rfl, full_le _ _⟩ (by simp; unfold maxLen; omega) (by simp; omega) appR_slot) ?_
 refine xm rfl (xm rfl ?_)
 refine xo rfl (fun _ => ok_sliceFrom rfl Tryz.underlying22 sz3 (vl rfl) (vl rfl) (by omega) (by simp; omega)) ?_
 refine Cx.ef 0 rfl rfl (by decide) (ef_append rfl rfl (by decide) rfl Tryz.underlying22 sz3 by3 z3 rfl (by decide) (vl rfl) (vl rfl) (by simp; unfold maxLen; omega) (by simp; omega) appR_slot) ?_
 refine Cx.ef 0 rfl rfl (by decide) (ef_move rfl rfl (by decide) rfl (vl rfl)) ?_
 refine Cx.nil ⟨rfl, ?_⟩
 refine FinX.open_ 0 4 rfl rfl (fun v1 => ?_)
 refine FinX.done (AllC.cons (AllC.map _)) (Fin.go (wk1 4 rfl (Tr.ret (Fin.ret1 rfl (OutW.bse _ _) rfl ?_))))
 · rw [ins_new (fun _ _ => cmpI_zero) hk hlt (fun w hw => by obtain rfl : z = y := (by rw [hz] at hy; exact Option.some.inj hy); obtain rfl : z = w := (by rw [hz] at hw; exact Option.some.inj hw); exact ⟨by unfold cmpI; rw [if_neg (by omega)]; split <;> omega, by assumption⟩)]; exact Pr.le_trans (andIs_le _ _) (Pr.le_of_eq (by show slice 1 _ = slice 1 _; rw [Int.toNat_natCast, List.map_append, List.map_append, List.map_take, List.map_drop, List.nil_append]; rfl))
 iterate 6 refine cnt h3 rfl ?_
 refine co rfl (kpf rfl rfl h3 rfl) (Ch.nil (Fin.go (wk4 0 1 5 31 rfl (Tr.cond rfl (fun h => nomatch h) (fun _ => ?_)))))
 refine Tr.skip (Fin.go (Tr.seq (Tr.pad (Tr.regX mixed [none, none, none, none, some (0, 0, true, 37), none, none, some (37, 0, true, 40), none, none, none, some (40, 0, true, 44), some (44, 0, true, 4)] (by kernel_rfl) (xo rfl (fun _ => ok_buildSlice (xs := []) (rows := []) rfl rfl Tryz.underlying22 sz3 z3 rfl (by decide) trivial (by decide)) (xm rfl (xm rfl (xo rfl (fun _ => ok_sliceTo rfl Tryz.underlying22 sz3 (vl rfl) (vl rfl) (by omega) (by omega)) ?_))))))))
 refine Cx.ef 0 rfl rfl (by decide) (ef_append rfl rfl (by decide) rfl Tryz.underlying22 sz3 by3 z3 rfl (by decide) ⟨_, rfl, full_le _ _⟩ (vl rfl) (by simp; unfold maxLen; omega) (by simp; omega) (appR_full (by exact List.Mem.head _) (vl rfl))) ?_
 refine xm rfl (xo rfl (fun _ => ok_buildSlice (xs := [.tmp 38]) (rows := [[_]]) rfl rfl Tryz.underlying22 sz3 z3 rfl (by decide) ⟨⟨(by exact rfl), (VL.le (vl rfl) (one_cellsP _))⟩, trivial⟩ (by decide)) ?_)
 refine Cx.ef 0 rfl rfl (by decide) (ef_append rfl rfl (by decide) rfl Tryz.underlying22 sz3 by3 z3 rfl (by decide) (vl rfl) ⟨_, rfl, full_le _ _⟩ (by simp; unfold maxLen; omega) (by simp; omega) appR_slot) ?_
 refine xm rfl (xm rfl (xo rfl (fun _ => ok_sliceFrom rfl Tryz.underlying22 sz3 (vl rfl) (vl rfl) (by omega) (by omega)) ?_))
 refine Cx.ef 0 rfl rfl (by decide) (ef_append rfl rfl (by decide) rfl Tryz.underlying22 sz3 by3 z3 rfl (by decide) (vl rfl) (vl rfl) (by simp; unfold maxLen; omega) (by simp; omega) appR_slot) ?_
 refine Cx.ef 0 rfl rfl (by decide) (ef_move rfl rfl (by decide) rfl (vl rfl)) ?_
 refine Cx.nil ⟨rfl, ?_⟩
 refine FinX.open_ 0 4 rfl rfl (fun v2 => ?_)
 refine FinX.done (AllC.cons (AllC.map _)) (Fin.go (wk1 4 rfl (Tr.ret (Fin.ret1 rfl (OutW.bse _ _) rfl ?_))))
 · exfalso; omega
 iterate 6 refine cnt h1 rfl ?_
 refine co rfl (kpf rfl rfl h1 rfl) (Ch.nil (Fin.go (wk4 0 1 5 17 rfl (Tr.cond rfl (fun h => nomatch h) (fun _ => ?_)))))
 refine Tr.exit (Fin.then_exit (Fin.then_exit (Fin.block_here (Fin.go (Tr.seq (Tr.seq (Tr.reg0 (cm rfl (cm rfl (co rfl (ok_lenm rfl Tryz.underlying22 (vl rfl)) (co rfl (ki rfl rfl rfl rfl) (cm rfl ?_))))))))))))
 refine Ch.cs 24 rfl ?_ ?_ <;> intro h5 q5
 obtain ⟨z, hz⟩ := at_ (l := l) (k := k) (by omega)
 refine cym h5 rfl (cym h5 rfl (cy h5 rfl (ok_indexAddr rfl Tryz.underlying22 sz3 (vl rfl) (vl rfl) (by omega) (row_at hz)) (cy h5 rfl (kl1 rfl one3 rfl) (cym h5 rfl (cy h5 rfl (ki rfl rfl rfl rfl) (co rfl (kpt rfl rfl h5 rfl) (Ch.nil (Fin.go (wk4 0 1 5 31 rfl ?_)))))))))
 refine Tr.cn rfl ?_ ?_ <;> intro h6 q6
 refine Tr.seq (Tr.reg0 (cm rfl (cm rfl (Ch.nil (Fin.go (Tr.ret (Fin.then_ret (Fin.ret1 rfl (OutW.bse _ _) rfl ?_))))))))
 · exfalso; omega
 refine Tr.skip (Fin.go (Tr.seq (Tr.pad (Tr.regX mixed [none, none, none, none, some (0, 0, true, 37), none, none, some (37, 0, true, 40), none, none, none, some (40, 0, true, 44), some (44, 0, true, 4)] (by kernel_rfl) (xo rfl (fun _ => ok_buildSlice (xs := []) (rows := []) rfl rfl Tryz.underlying22 sz3 z3 rfl (by decide) trivial (by decide)) (xm rfl (xm rfl (xo rfl (fun _ => ok_sliceTo rfl Tryz.underlying22 sz3 (vl rfl) (vl rfl) (by omega) (by omega)) ?_))))))))
 refine Cx.ef 0 rfl rfl (by decide) (ef_append rfl rfl (by decide) rfl Tryz.underlying22 sz3 by3 z3 rfl (by decide) ⟨_, rfl, full_le _ _⟩ (vl rfl) (by simp; unfold maxLen; omega) (by simp; omega) (appR_full (by exact List.Mem.head _) (vl rfl))) ?_
 refine xm rfl (xo rfl (fun _ => ok_buildSlice (xs := [.tmp 38]) (rows := [[_]]) rfl rfl Tryz.underlying22 sz3 z3 rfl (by decide) ⟨⟨(by exact rfl), (VL.le (vl rfl) (one_cellsP _))⟩, trivial⟩ (by decide)) ?_)
 refine Cx.ef 0 rfl rfl (by decide) (ef_append rfl rfl (by decide) rfl Tryz.underlying22 sz3 by3 z3 rfl (by decide) (vl rfl) ⟨_, rfl, full_le _ _⟩ (by simp; unfold maxLen; omega) (by simp; omega) appR_slot) ?_
 refine xm rfl (xm rfl (xo rfl (fun _ => ok_sliceFrom rfl Tryz.underlying22 sz3 (vl rfl) (vl rfl) (by omega) (by omega)) ?_))
 refine Cx.ef 0 rfl rfl (by decide) (ef_append rfl rfl (by decide) rfl Tryz.underlying22 sz3 by3 z3 rfl (by decide) (vl rfl) (vl rfl) (by simp; unfold maxLen; omega) (by simp; omega) appR_slot) ?_
 refine Cx.ef 0 rfl rfl (by decide) (ef_move rfl rfl (by decide) rfl (vl rfl)) ?_
 refine Cx.nil ⟨rfl, ?_⟩
 refine FinX.open_ 0 4 rfl rfl (fun v3 => ?_)
 refine FinX.done (AllC.cons (AllC.map _)) (Fin.go (wk1 4 rfl (Tr.ret (Fin.ret1 rfl (OutW.bse _ _) rfl ?_))))
 · exfalso; omega
 iterate 6 refine cnt h5 rfl ?_
 refine co rfl (kpf rfl rfl h5 rfl) (Ch.nil (Fin.go (wk4 0 1 5 31 rfl (Tr.cond rfl (fun h => nomatch h) (fun _ => ?_)))))
 refine Tr.skip (Fin.go (Tr.seq (Tr.pad (Tr.regX mixed [none, none, none, none, some (0, 0, true, 37), none, none, some (37, 0, true, 40), none, none, none, some (40, 0, true, 44), some (44, 0, true, 4)] (by kernel_rfl) (xo rfl (fun _ => ok_buildSlice (xs := []) (rows := []) rfl rfl Tryz.underlying22 sz3 z3 rfl (by decide) trivial (by decide)) (xm rfl (xm rfl ?_)))))))
 refine xo rfl (fun _ => ok_sliceTo rfl Tryz.underlying22 sz3 (vl rfl) (vl rfl) (by omega) (by simp; omega)) ?_
 refine Cx.ef 0 rfl rfl (by decide) (ef_append rfl rfl (by decide) rfl Tryz.underlying22 sz3 by3 z3 rfl (by decide) ⟨_, rfl, full_le _ _⟩ (vl rfl) (by simp; unfold maxLen; omega) (by simp; omega) (appR_full (by exact List.Mem.head _) (vl rfl))) ?_
 refine xm rfl (xo rfl (fun _ => ok_buildSlice (xs := [.tmp 38]) (rows := [[_]]) rfl rfl Tryz.underlying22 sz3 z3 rfl (by decide) ⟨⟨(by exact rfl), (VL.le (vl rfl) (one_cellsP _))⟩, trivial⟩ (by decide)) ?_)
 refine Cx.ef 0 rfl rfl (by decide) (ef_append rfl rfl (by decide) rfl Tryz.underlying22 sz3 by3 z3 rfl (by decide) (vl rfl) ⟨_, rfl, full_le _ _⟩ (by simp; unfold maxLen; omega) (by simp; omega) appR_slot) ?_
 refine xm rfl (xm rfl ?_)
 refine xo rfl (fun _ => ok_sliceFrom rfl Tryz.underlying22 sz3 (vl rfl) (vl rfl) (by omega) (by simp; omega)) ?_
 refine Cx.ef 0 rfl rfl (by decide) (ef_append rfl rfl (by decide) rfl Tryz.underlying22 sz3 by3 z3 rfl (by decide) (vl rfl) (vl rfl) (by simp; unfold maxLen; omega) (by simp; omega) appR_slot) ?_
 refine Cx.ef 0 rfl rfl (by decide) (ef_move rfl rfl (by decide) rfl (vl rfl)) ?_
 refine Cx.nil ⟨rfl, ?_⟩
 refine FinX.open_ 0 4 rfl rfl (fun v4 => ?_)
 refine FinX.done (AllC.cons (AllC.map _)) (Fin.go (wk1 4 rfl (Tr.ret (Fin.ret1 rfl (OutW.bse _ _) rfl ?_))))
 · rw [ins_new (fun _ _ => cmpI_zero) hk hlt (fun w hw => by rw [List.getElem?_eq_none (by omega)] at hw; cases hw)]; exact Pr.le_trans (andIs_le _ _) (Pr.le_of_eq (by show slice 1 _ = slice 1 _; rw [Int.toNat_natCast, List.map_append, List.map_append, List.map_take, List.map_drop, List.nil_append]; rfl))
set_option maxRecDepth 20000 in
theorem w_textPut {l : List (List UInt8)} {x : List UInt8} (hl : l.length ≤ 1000000) : Fun Tryz.prog 66 [strs l, str x] (strs (insC Lib.compareBytes l x)) := by
 refine Fun.of Tryz.func66 rfl rfl (by exact Nat.le_of_ble_eq_true rfl) fun M0 w0 => ?_
 refine Tr.seq (Tr.reg0 (cm rfl (Ch.nil (Fin.go (Tr.seq (Tr.reg0 (cm rfl (Ch.nil (Fin.go (Tr.seq (Tr.block (Tr.loopw [(0, _), (1, _)] (kk2 rfl) (fun k : Nat => [(5, int ((k : Nat) : Int))]) (fun k : Nat => k ≤ l.length ∧ ∀ (j : Nat) y, j < k → l[j]? = some y → Lib.compareBytes y x < 0) (fun k : Nat => l.length - k) 0 (⟨Nat.zero_le _, fun j y h => absurd h (by omega)⟩) ⟨ke rfl, trivial⟩ ?_))))))))))))
 rintro k ⟨hk, hlt⟩
 refine Tr.seq (Tr.seq (Tr.reg0 (cm rfl (cm rfl (co rfl (ok_lenm rfl Tryz.underlying53 (vl rfl)) (co rfl (ki rfl rfl rfl rfl) (cm rfl ?_)))))))
 refine Ch.cs 10 rfl ?_ ?_ <;> intro h1 q1
 obtain ⟨y, hy⟩ := at_ (l := l) (k := k) (by omega)
 refine cym h1 rfl (cym h1 rfl (cy h1 rfl (ok_indexAddr rfl Tryz.underlying53 sz9 (vl rfl) (vl rfl) (by omega) (row_at hy)) (cy h1 rfl (kl1 rfl one9 rfl) (cym h1 rfl (cy h1 rfl (ok_lts rfl (vl rfl) (vl rfl)) (co rfl (kpt rfl rfl h1 rfl) (Ch.nil (Fin.go (wk4 0 1 5 17 rfl ?_)))))))))
 refine Tr.cn rfl ?_ ?_ <;> intro h2 q2
 have := h2
 refine Tr.skip (Fin.go (Tr.block (Tr.reg0 (cm rfl (cad rfl rfl rfl rfl (by omega) (cm rfl (Ch.nil (Fin.block ?_))))))))
 exact Fin.fam_same (k + 1) ⟨⟨by omega, fun j w h1 h2 => by rcases Nat.lt_or_eq_of_le (show j ≤ k by omega) with h3 | h3; exact hlt j w h3 h2; (subst h3; rw [hy] at h2; cases h2; omega)⟩, by omega⟩ ⟨⟨_, rfl, int_succ k⟩, ke rfl, ke rfl, trivial⟩
 have := h2
 refine Tr.exit (Fin.then_exit (Fin.then_exit (Fin.block_here (Fin.go (Tr.seq (Tr.seq (Tr.reg0 (cm rfl (cm rfl (co rfl (ok_lenm rfl Tryz.underlying53 (vl rfl)) (co rfl (ki rfl rfl rfl rfl) (cm rfl ?_))))))))))))
 refine Ch.cs 24 rfl ?_ ?_ <;> intro h3 q3
 obtain ⟨z, hz⟩ := at_ (l := l) (k := k) (by omega)
 refine cym h3 rfl (cym h3 rfl (cy h3 rfl (ok_indexAddr rfl Tryz.underlying53 sz9 (vl rfl) (vl rfl) (by omega) (row_at hz)) (cy h3 rfl (kl1 rfl one9 rfl) (cym h3 rfl (cy h3 rfl (ok_eqs rfl (vl rfl) (vl rfl)) (co rfl (kpt rfl rfl h3 rfl) (Ch.nil (Fin.go (wk4 0 1 5 31 rfl ?_)))))))))
 refine Tr.cn rfl ?_ ?_ <;> intro h4 q4
 refine Tr.seq (Tr.reg0 (cm rfl (cm rfl (Ch.nil (Fin.go (Tr.ret (Fin.then_ret (Fin.ret1 rfl (OutW.bse _ _) rfl ?_))))))))
 · rw [ins_same cmp_zero hk hlt (by rw [hz]; congr 1)]; exact Pr.le_refl _
 refine Tr.skip (Fin.go (Tr.seq (Tr.pad (Tr.regX mixed [none, none, none, none, some (0, 0, true, 37), none, none, some (37, 0, true, 40), none, none, none, some (40, 0, true, 44), some (44, 0, true, 4)] (by kernel_rfl) (xo rfl (fun _ => ok_buildSlice (xs := []) (rows := []) rfl rfl Tryz.underlying53 sz9 z9 rfl (by decide) trivial (by decide)) (xm rfl (xm rfl ?_)))))))
 refine xo rfl (fun _ => ok_sliceTo rfl Tryz.underlying53 sz9 (vl rfl) (vl rfl) (by omega) (by simp; omega)) ?_
 refine Cx.ef 0 rfl rfl (by decide) (ef_append rfl rfl (by decide) rfl Tryz.underlying53 sz9 by9 z9 rfl (by decide) ⟨_, rfl, full_le _ _⟩ (vl rfl) (by simp; unfold maxLen; omega) (by simp; omega) (appR_full (by exact List.Mem.head _) (vl rfl))) ?_
 refine xm rfl (xo rfl (fun _ => ok_buildSlice (xs := [.tmp 38]) (rows := [[_]]) rfl rfl Tryz.underlying53 sz9 z9 rfl (by decide) ⟨⟨(by exact rfl), (VL.le (vl rfl) (one_cellsP _))⟩, trivial⟩ (by decide)) ?_)
 refine Cx.ef 0 rfl rfl (by decide) (ef_append rfl rfl (by decide) rfl Tryz.underlying53 sz9 by9 z9 rfl (by decide) (vl rfl) ⟨_, rfl, full_le _ _⟩ (by simp; unfold maxLen; omega) (by simp; omega) appR_slot) ?_
 refine xm rfl (xm rfl ?_)
 refine xo rfl (fun _ => ok_sliceFrom rfl Tryz.underlying53 sz9 (vl rfl) (vl rfl) (by omega) (by simp; omega)) ?_
 refine Cx.ef 0 rfl rfl (by decide) (ef_append rfl rfl (by decide) rfl Tryz.underlying53 sz9 by9 z9 rfl (by decide) (vl rfl) (vl rfl) (by simp; unfold maxLen; omega) (by simp; omega) appR_slot) ?_
 refine Cx.ef 0 rfl rfl (by decide) (ef_move rfl rfl (by decide) rfl (vl rfl)) ?_
 refine Cx.nil ⟨rfl, ?_⟩
 refine FinX.open_ 0 4 rfl rfl (fun v1 => ?_)
 refine FinX.done (AllC.cons (AllC.map _)) (Fin.go (wk1 4 rfl (Tr.ret (Fin.ret1 rfl (OutW.bse _ _) rfl ?_))))
 · rw [ins_new cmp_zero hk hlt (fun w hw => by obtain rfl : z = y := (by rw [hz] at hy; exact Option.some.inj hy); obtain rfl : z = w := (by rw [hz] at hw; exact Option.some.inj hw); exact ⟨by have := cmp_in z x; omega, by assumption⟩)]; exact Pr.le_trans (andIs_le _ _) (Pr.le_of_eq (by show slice 1 _ = slice 1 _; rw [Int.toNat_natCast, List.map_append, List.map_append, List.map_take, List.map_drop, List.nil_append]; rfl))
 iterate 6 refine cnt h3 rfl ?_
 refine co rfl (kpf rfl rfl h3 rfl) (Ch.nil (Fin.go (wk4 0 1 5 31 rfl (Tr.cond rfl (fun h => nomatch h) (fun _ => ?_)))))
 refine Tr.skip (Fin.go (Tr.seq (Tr.pad (Tr.regX mixed [none, none, none, none, some (0, 0, true, 37), none, none, some (37, 0, true, 40), none, none, none, some (40, 0, true, 44), some (44, 0, true, 4)] (by kernel_rfl) (xo rfl (fun _ => ok_buildSlice (xs := []) (rows := []) rfl rfl Tryz.underlying53 sz9 z9 rfl (by decide) trivial (by decide)) (xm rfl (xm rfl (xo rfl (fun _ => ok_sliceTo rfl Tryz.underlying53 sz9 (vl rfl) (vl rfl) (by omega) (by omega)) ?_))))))))
 refine Cx.ef 0 rfl rfl (by decide) (ef_append rfl rfl (by decide) rfl Tryz.underlying53 sz9 by9 z9 rfl (by decide) ⟨_, rfl, full_le _ _⟩ (vl rfl) (by simp; unfold maxLen; omega) (by simp; omega) (appR_full (by exact List.Mem.head _) (vl rfl))) ?_
 refine xm rfl (xo rfl (fun _ => ok_buildSlice (xs := [.tmp 38]) (rows := [[_]]) rfl rfl Tryz.underlying53 sz9 z9 rfl (by decide) ⟨⟨(by exact rfl), (VL.le (vl rfl) (one_cellsP _))⟩, trivial⟩ (by decide)) ?_)
 refine Cx.ef 0 rfl rfl (by decide) (ef_append rfl rfl (by decide) rfl Tryz.underlying53 sz9 by9 z9 rfl (by decide) (vl rfl) ⟨_, rfl, full_le _ _⟩ (by simp; unfold maxLen; omega) (by simp; omega) appR_slot) ?_
 refine xm rfl (xm rfl (xo rfl (fun _ => ok_sliceFrom rfl Tryz.underlying53 sz9 (vl rfl) (vl rfl) (by omega) (by omega)) ?_))
 refine Cx.ef 0 rfl rfl (by decide) (ef_append rfl rfl (by decide) rfl Tryz.underlying53 sz9 by9 z9 rfl (by decide) (vl rfl) (vl rfl) (by simp; unfold maxLen; omega) (by simp; omega) appR_slot) ?_
 refine Cx.ef 0 rfl rfl (by decide) (ef_move rfl rfl (by decide) rfl (vl rfl)) ?_
 refine Cx.nil ⟨rfl, ?_⟩
 refine FinX.open_ 0 4 rfl rfl (fun v2 => ?_)
 refine FinX.done (AllC.cons (AllC.map _)) (Fin.go (wk1 4 rfl (Tr.ret (Fin.ret1 rfl (OutW.bse _ _) rfl ?_))))
 · exfalso; omega
 iterate 6 refine cnt h1 rfl ?_
 refine co rfl (kpf rfl rfl h1 rfl) (Ch.nil (Fin.go (wk4 0 1 5 17 rfl (Tr.cond rfl (fun h => nomatch h) (fun _ => ?_)))))
 refine Tr.exit (Fin.then_exit (Fin.then_exit (Fin.block_here (Fin.go (Tr.seq (Tr.seq (Tr.reg0 (cm rfl (cm rfl (co rfl (ok_lenm rfl Tryz.underlying53 (vl rfl)) (co rfl (ki rfl rfl rfl rfl) (cm rfl ?_))))))))))))
 refine Ch.cs 24 rfl ?_ ?_ <;> intro h5 q5
 obtain ⟨z, hz⟩ := at_ (l := l) (k := k) (by omega)
 refine cym h5 rfl (cym h5 rfl (cy h5 rfl (ok_indexAddr rfl Tryz.underlying53 sz9 (vl rfl) (vl rfl) (by omega) (row_at hz)) (cy h5 rfl (kl1 rfl one9 rfl) (cym h5 rfl (cy h5 rfl (ok_eqs rfl (vl rfl) (vl rfl)) (co rfl (kpt rfl rfl h5 rfl) (Ch.nil (Fin.go (wk4 0 1 5 31 rfl ?_)))))))))
 refine Tr.cn rfl ?_ ?_ <;> intro h6 q6
 refine Tr.seq (Tr.reg0 (cm rfl (cm rfl (Ch.nil (Fin.go (Tr.ret (Fin.then_ret (Fin.ret1 rfl (OutW.bse _ _) rfl ?_))))))))
 · exfalso; omega
 refine Tr.skip (Fin.go (Tr.seq (Tr.pad (Tr.regX mixed [none, none, none, none, some (0, 0, true, 37), none, none, some (37, 0, true, 40), none, none, none, some (40, 0, true, 44), some (44, 0, true, 4)] (by kernel_rfl) (xo rfl (fun _ => ok_buildSlice (xs := []) (rows := []) rfl rfl Tryz.underlying53 sz9 z9 rfl (by decide) trivial (by decide)) (xm rfl (xm rfl (xo rfl (fun _ => ok_sliceTo rfl Tryz.underlying53 sz9 (vl rfl) (vl rfl) (by omega) (by omega)) ?_))))))))
 refine Cx.ef 0 rfl rfl (by decide) (ef_append rfl rfl (by decide) rfl Tryz.underlying53 sz9 by9 z9 rfl (by decide) ⟨_, rfl, full_le _ _⟩ (vl rfl) (by simp; unfold maxLen; omega) (by simp; omega) (appR_full (by exact List.Mem.head _) (vl rfl))) ?_
 refine xm rfl (xo rfl (fun _ => ok_buildSlice (xs := [.tmp 38]) (rows := [[_]]) rfl rfl Tryz.underlying53 sz9 z9 rfl (by decide) ⟨⟨(by exact rfl), (VL.le (vl rfl) (one_cellsP _))⟩, trivial⟩ (by decide)) ?_)
 refine Cx.ef 0 rfl rfl (by decide) (ef_append rfl rfl (by decide) rfl Tryz.underlying53 sz9 by9 z9 rfl (by decide) (vl rfl) ⟨_, rfl, full_le _ _⟩ (by simp; unfold maxLen; omega) (by simp; omega) appR_slot) ?_
 refine xm rfl (xm rfl (xo rfl (fun _ => ok_sliceFrom rfl Tryz.underlying53 sz9 (vl rfl) (vl rfl) (by omega) (by omega)) ?_))
 refine Cx.ef 0 rfl rfl (by decide) (ef_append rfl rfl (by decide) rfl Tryz.underlying53 sz9 by9 z9 rfl (by decide) (vl rfl) (vl rfl) (by simp; unfold maxLen; omega) (by simp; omega) appR_slot) ?_
 refine Cx.ef 0 rfl rfl (by decide) (ef_move rfl rfl (by decide) rfl (vl rfl)) ?_
 refine Cx.nil ⟨rfl, ?_⟩
 refine FinX.open_ 0 4 rfl rfl (fun v3 => ?_)
 refine FinX.done (AllC.cons (AllC.map _)) (Fin.go (wk1 4 rfl (Tr.ret (Fin.ret1 rfl (OutW.bse _ _) rfl ?_))))
 · exfalso; omega
 iterate 6 refine cnt h5 rfl ?_
 refine co rfl (kpf rfl rfl h5 rfl) (Ch.nil (Fin.go (wk4 0 1 5 31 rfl (Tr.cond rfl (fun h => nomatch h) (fun _ => ?_)))))
 refine Tr.skip (Fin.go (Tr.seq (Tr.pad (Tr.regX mixed [none, none, none, none, some (0, 0, true, 37), none, none, some (37, 0, true, 40), none, none, none, some (40, 0, true, 44), some (44, 0, true, 4)] (by kernel_rfl) (xo rfl (fun _ => ok_buildSlice (xs := []) (rows := []) rfl rfl Tryz.underlying53 sz9 z9 rfl (by decide) trivial (by decide)) (xm rfl (xm rfl ?_)))))))
 refine xo rfl (fun _ => ok_sliceTo rfl Tryz.underlying53 sz9 (vl rfl) (vl rfl) (by omega) (by simp; omega)) ?_
 refine Cx.ef 0 rfl rfl (by decide) (ef_append rfl rfl (by decide) rfl Tryz.underlying53 sz9 by9 z9 rfl (by decide) ⟨_, rfl, full_le _ _⟩ (vl rfl) (by simp; unfold maxLen; omega) (by simp; omega) (appR_full (by exact List.Mem.head _) (vl rfl))) ?_
 refine xm rfl (xo rfl (fun _ => ok_buildSlice (xs := [.tmp 38]) (rows := [[_]]) rfl rfl Tryz.underlying53 sz9 z9 rfl (by decide) ⟨⟨(by exact rfl), (VL.le (vl rfl) (one_cellsP _))⟩, trivial⟩ (by decide)) ?_)
 refine Cx.ef 0 rfl rfl (by decide) (ef_append rfl rfl (by decide) rfl Tryz.underlying53 sz9 by9 z9 rfl (by decide) (vl rfl) ⟨_, rfl, full_le _ _⟩ (by simp; unfold maxLen; omega) (by simp; omega) appR_slot) ?_
 refine xm rfl (xm rfl ?_)
 refine xo rfl (fun _ => ok_sliceFrom rfl Tryz.underlying53 sz9 (vl rfl) (vl rfl) (by omega) (by simp; omega)) ?_
 refine Cx.ef 0 rfl rfl (by decide) (ef_append rfl rfl (by decide) rfl Tryz.underlying53 sz9 by9 z9 rfl (by decide) (vl rfl) (vl rfl) (by simp; unfold maxLen; omega) (by simp; omega) appR_slot) ?_
 refine Cx.ef 0 rfl rfl (by decide) (ef_move rfl rfl (by decide) rfl (vl rfl)) ?_
 refine Cx.nil ⟨rfl, ?_⟩
 refine FinX.open_ 0 4 rfl rfl (fun v4 => ?_)
 refine FinX.done (AllC.cons (AllC.map _)) (Fin.go (wk1 4 rfl (Tr.ret (Fin.ret1 rfl (OutW.bse _ _) rfl ?_))))
 · rw [ins_new cmp_zero hk hlt (fun w hw => by rw [List.getElem?_eq_none (by omega)] at hw; cases hw)]; exact Pr.le_trans (andIs_le _ _) (Pr.le_of_eq (by show slice 1 _ = slice 1 _; rw [Int.toNat_natCast, List.map_append, List.map_append, List.map_take, List.map_drop, List.nil_append]; rfl))
set_option maxRecDepth 20000 in
theorem w_R15group {l : List Fnd} {p : List Int} {i b0 n : Nat} {f : Fnd} {m gap : Int} (hd : DaysIn l) (hl : AdjF l) (hi : l[i]? = some f) (hm : mOf l gap i = m) (hpl : p.length = n) (hp : ∀ (j : Nat), j < i → p[j]? = some ((rootS l gap j : Nat) : Int)) (hn : n = l.length) (hn2 : n ≤ 1000000) : FunM Tryz.prog 118 [fnds l, is (.slice (some ⟨b0, 0, none⟩) n n), int ((i : Nat) : Int), int m, int gap] (int (rootS l gap i : Nat)) (cellsRes true b0 3 (arr p)) (fun _ => cellsRes true b0 3 (arr p)) := by
 refine FunM.of Tryz.func118 rfl rfl (by exact Nat.le_of_ble_eq_true rfl) fun M0 w0 S rs M1 w1 => ?_
 have hil := lt_of_atX hi
 have hfd := days_at hd hi
 refine Tr.seq (Tr.reg0 (cm rfl (Ch.nil (Fin.go (Tr.seq (Tr.seq (Tr.reg0 (cm rfl (co rfl (ki rfl rfl rfl rfl) (Ch.nil (Fin.go ?_)))))))))))
 refine Tr.cn rfl ?_ ?_ <;> intro h1 q1
 refine Tr.seq (Tr.seq (Tr.reg0 (cm rfl (Ch.nil (Fin.go (Tr.block (Tr.loopw [(0, _), (2, _), (3, _), (4, _)] (kk4 rfl) (fun k : Nat => [(11, int ((k : Nat) : Int))]) (fun k : Nat => k ≤ i ∧ ∀ j, j < k → ¬ mOf l gap j = m) (fun k : Nat => i - k) 0 (⟨Nat.zero_le _, fun j h => absurd h (by omega)⟩) ⟨ke rfl, trivial⟩ ?_)))))))
 rintro k ⟨hk, hno⟩
 refine Tr.seq (Tr.seq (Tr.reg0 (cm rfl (cm rfl (co rfl (ki rfl rfl rfl rfl) (Ch.nil (Fin.go ?_)))))))
 refine Tr.cn rfl ?_ ?_ <;> intro h2 q2
 have hki : k < i := by have := of_decide_eq_true h2; omega
 obtain ⟨x, hx⟩ := at_ (l := l) (k := k) (by omega)
 refine Tr.skip (Fin.go (Tr.seq (Tr.block (Tr.seq (Tr.reg0 (cm rfl (cm rfl (co rfl (ok_indexAddr rfl Tryz.underlying31 sz26 (vl rfl) (vl rfl) (by omega) (by exact row_at (by assumption))) ?_))))))))
 refine co rfl (kfa rfl fo26_2 rfl rfl) (co rfl (kl1 rfl one3 rfl) (cm rfl (Ch.nil (Fin.go (wk6 0 2 3 4 11 12 rfl (Tr.seq (Tr.seq (Tr.reg0 (cm rfl (co rfl (ki rfl rfl rfl rfl) (Ch.nil (Fin.go ?_))))))))))))
 refine Tr.cn rfl ?_ ?_ <;> intro h3 q3
 refine Tr.seq (Tr.reg0 (cm rfl (cm rfl (cm rfl ?_))))
 refine co rfl (ok_call rfl (w_R15near (i := k) hd hx) ⟨ke rfl, ke rfl, ke rfl, trivial⟩) ?_
 refine cm rfl (Ch.nil (Fin.go (Tr.seq (Tr.reg0 (cm rfl (co rfl (ki rfl rfl rfl rfl) (Ch.nil (Fin.go (wk8 0 2 3 4 11 12 13 34 rfl ?_)))))))))
 refine Tr.cn rfl ?_ ?_ <;> intro h4 q4
 obtain ⟨hgl, g, hg, hg0, hgh, hgd⟩ := near_get (f := x) (gap := gap) q4
 have hmk := mOf_near hx (by assumption) q4 hg
 refine Tr.reg0 (cm rfl (cm rfl (co rfl (ok_indexAddr rfl Tryz.underlying31 sz26 (vl rfl) (vl rfl) (by omega) (by exact row_at (by assumption))) ?_)))
 refine co rfl (kfa rfl fo26_2 rfl rfl) (co rfl (kl1 rfl one3 rfl) (cm rfl (Ch.nil (Fin.go (wk6 0 2 3 4 11 12 rfl (Tr.seq (Tr.reg0 (cm rfl (cm rfl (co rfl (ki rfl rfl rfl rfl) (Ch.nil (Fin.go ?_))))))))))))
 refine Tr.cn rfl ?_ ?_ <;> intro h5 q5
 refine Tr.seq (Tr.reg0 (cm rfl (cm rfl (Ch.nil (Fin.go (Tr.ret (Fin.block_ret (Fin.then_ret (Fin.then_ret (Fin.block_ret (Fin.then_ret (Fin.then_ret (Fin.retM1 rfl rfl ?_ (fun _ _ _ _ => rfl))))))))))))))
 · exact int_eq (by rw [rootS_first (k := k) (by rw [hm]; assumption) (by omega) (by rw [hmk, hm]; assumption) (fun j h => by rw [hm]; exact hno j h)])
 refine Tr.skip (Fin.block (Fin.go (Tr.reg0 (cm rfl (cad rfl rfl rfl rfl (by omega) (cm rfl (Ch.nil ?_)))))))
 exact Fin.fam_same (k + 1) ⟨⟨by omega, fun j h => by rcases Nat.lt_or_eq_of_le (show j ≤ k by omega) with h3 | h3; exact hno j h3; (subst h3; rw [hmk]; omega)⟩, by omega⟩ ⟨⟨_, rfl, int_succ k⟩, ke rfl, ke rfl, ke rfl, ke rfl, trivial⟩
 have hmk := mOf_loose hx (by assumption) (by omega)
 refine Tr.skip (Fin.go (Tr.seq (Tr.reg0 (cm rfl (cm rfl (co rfl (ki rfl rfl rfl rfl) (Ch.nil (Fin.go ?_))))))))
 refine Tr.cn rfl ?_ ?_ <;> intro h6 q6
 refine Tr.seq (Tr.reg0 (cm rfl (cm rfl (Ch.nil (Fin.go (Tr.ret (Fin.block_ret (Fin.then_ret (Fin.then_ret (Fin.block_ret (Fin.then_ret (Fin.then_ret (Fin.retM1 rfl rfl ?_ (fun _ _ _ _ => rfl))))))))))))))
 · exfalso; omega
 refine Tr.skip (Fin.block (Fin.go (Tr.reg0 (cm rfl (cad rfl rfl rfl rfl (by omega) (cm rfl (Ch.nil ?_)))))))
 exact Fin.fam_same (k + 1) ⟨⟨by omega, fun j h => by rcases Nat.lt_or_eq_of_le (show j ≤ k by omega) with h3 | h3; exact hno j h3; (subst h3; rw [hmk]; omega)⟩, by omega⟩ ⟨⟨_, rfl, int_succ k⟩, ke rfl, ke rfl, ke rfl, ke rfl, trivial⟩
 have hmk := mOf_own (gap := gap) hx q3
 refine Tr.skip (Fin.go (Tr.seq (Tr.reg0 (cm rfl (cm rfl (co rfl (ki rfl rfl rfl rfl) (Ch.nil (Fin.go ?_))))))))
 refine Tr.cn rfl ?_ ?_ <;> intro h7 q7
 refine Tr.seq (Tr.reg0 (cm rfl (cm rfl (Ch.nil (Fin.go (Tr.ret (Fin.block_ret (Fin.then_ret (Fin.then_ret (Fin.block_ret (Fin.then_ret (Fin.then_ret (Fin.retM1 rfl rfl ?_ (fun _ _ _ _ => rfl))))))))))))))
 · exact int_eq (by rw [rootS_first (k := k) (by rw [hm]; assumption) (by omega) (by rw [hmk, hm]; assumption) (fun j h => by rw [hm]; exact hno j h)])
 refine Tr.skip (Fin.block (Fin.go (Tr.reg0 (cm rfl (cad rfl rfl rfl rfl (by omega) (cm rfl (Ch.nil ?_)))))))
 exact Fin.fam_same (k + 1) ⟨⟨by omega, fun j h => by rcases Nat.lt_or_eq_of_le (show j ≤ k by omega) with h3 | h3; exact hno j h3; (subst h3; rw [hmk]; omega)⟩, by omega⟩ ⟨⟨_, rfl, int_succ k⟩, ke rfl, ke rfl, ke rfl, ke rfl, trivial⟩
 have := h2
 refine Tr.exit (Fin.then_exit (Fin.then_exit (Fin.block_here (Fin.go (Tr.seq (Tr.reg0 (cm rfl (cm rfl (Ch.nil (Fin.go (Tr.ret (Fin.then_ret (Fin.retM1 rfl rfl ?_ (fun _ _ _ _ => rfl))))))))))))))
 · exact int_eq (by rw [rootS_first (k := i) (by rw [hm]; assumption) (Nat.le_refl _) rfl (fun j h => by rw [hm]; exact hno j (by omega))])
 refine Tr.skip (Fin.go (Tr.seq (Tr.seq (Tr.reg0 (cm rfl (csu rfl rfl rfl rfl (by omega) (cm rfl (Ch.nil (Fin.go (Tr.block (Tr.loopw [(0, _), (1, _), (2, _), (4, _)] (kk4 rfl) (fun k : Int => [(14, int (k : Int))]) (fun k : Int => -1 ≤ k ∧ k < i ∧ ∀ (j : Nat), k < j → j < i → ∀ e, l[j]? = some e → ¬ (e.host = f.host ∧ mOf l gap j = 0)) (fun k : Int => (k + 1).toNat) ((i : Int) - 1) (⟨by omega, by omega, fun j h1 h2 => absurd h2 (by omega)⟩) ⟨ke rfl, trivial⟩ ?_)))))))))))
 rintro k ⟨hk1, hk2, hno⟩
 refine Tr.seq (Tr.seq (Tr.reg0 (cm rfl (co rfl (ki rfl rfl rfl rfl) (Ch.nil (Fin.go ?_))))))
 refine Tr.cn rfl ?_ ?_ <;> intro h8 q8
 have hk0 : 0 ≤ k := of_decide_eq_true h8
 obtain ⟨x, hx⟩ := at_ (l := l) (k := k.toNat) (by omega)
 have hxd := days_at hd hx
 refine Tr.skip (Fin.go (Tr.seq (Tr.block (Tr.seq (Tr.reg1 mixed (by kernel_rfl) (cm rfl (cm rfl (co rfl (ok_indexAddr rfl Tryz.underlying31 sz26 (vl rfl) (vl rfl) (by omega) (row_atI hx)) (co rfl (kfa rfl fo26_1 rfl rfl) (co rfl (kl1 rfl one9 rfl) (cm rfl (cm rfl (co rfl (ok_indexAddr rfl Tryz.underlying31 sz26 (vl rfl) (vl rfl) (by omega) (row_at hi)) ?_)))))))))))))
 refine co rfl (kfa rfl fo26_1 rfl rfl) (co rfl (kl1 rfl one9 rfl) (co rfl (ok_eqs rfl (vl rfl) (vl rfl)) (cm rfl ?_)))
 refine Ch.cs 62 rfl ?_ ?_ <;> intro h9 q9
 refine cym h9 rfl (cym h9 rfl (cy h9 rfl (ok_indexAddr rfl Tryz.underlying31 sz26 (vl rfl) (vl rfl) (by omega) (row_atI hx)) (cy h9 rfl (kfa rfl fo26_2 rfl rfl) (cy h9 rfl (kl1 rfl one3 rfl) (cy h9 rfl (ki rfl rfl rfl rfl) (co rfl (kpt rfl rfl h9 rfl) (cm rfl ?_)))))))
 refine Ch.cs 70 rfl ?_ ?_ <;> intro h10 q10
 refine cym h10 rfl (cym h10 rfl (cym h10 rfl ?_))
 refine cy h10 rfl (ok_call rfl (w_R15near (i := k.toNat) hd hx) ⟨ke rfl, ⟨_, rfl, int_eq (by omega)⟩, ke rfl, trivial⟩) ?_
 refine cy h10 rfl (ki rfl rfl rfl rfl) (co rfl (kpt rfl rfl h10 rfl) (Ch.nil (Fin.go (wk6 0 1 2 4 14 76 rfl ?_))))
 refine Tr.cn rfl ?_ ?_ <;> intro h11 q11
 refine Tr.seq (Tr.seq (Tr.reg1 mixed (by kernel_rfl) (cm rfl (cm rfl (co rfl (ok_indexAddr rfl Tryz.underlying31 sz26 (vl rfl) (vl rfl) (by omega) (row_at hi)) (co rfl (kfa rfl fo26_3 rfl rfl) (co rfl (kl1 rfl one3 rfl) (cm rfl (cm rfl (co rfl (ok_indexAddr rfl Tryz.underlying31 sz26 (vl rfl) (vl rfl) (by omega) (row_atI hx)) (co rfl (kfa rfl fo26_3 rfl rfl) (co rfl (kl1 rfl one3 rfl) (csu rfl rfl rfl rfl (by omega) ?_)))))))))))))
 refine cm rfl (co rfl (ki rfl rfl rfl rfl) (Ch.nil (Fin.go (wk4 1 2 14 89 rfl ?_))))
 refine Tr.cn rfl ?_ ?_ <;> intro h12 q12
 refine Tr.seq (Tr.reg0 (cm rfl (cm rfl (co rfl (okp_indexSl rfl Tryz.underlying22 sz3 (vl rfl) (vl rfl) (by omega) (by omega)) (co rfl (ok_rd 0 rfl (rd_load1 rfl one3 (vl rfl) (arr_atO (hp _ (by omega))))) (cm rfl (Ch.nil (Fin.go (Tr.ret (Fin.then_ret (Fin.block_ret (Fin.then_ret (Fin.then_ret (Fin.block_ret ?_))))))))))))))
 refine Fin.then_ret (Fin.retM1 rfl rfl ?_ (fun _ _ _ _ => rfl))
 · exact int_eq (by rw [rootS_found hl hi hx (by rw [hm]; assumption) (by omega) ((loose_iff hx).2 ⟨by assumption, by assumption⟩) (by assumption) (fun j h1 h2 => hno j (by omega) h2), if_pos (by omega)])
 refine Tr.skip (Fin.go (Tr.seq (Tr.reg0 (cm rfl (cm rfl (Ch.nil (Fin.go (Tr.ret (Fin.block_ret (Fin.then_ret (Fin.then_ret (Fin.block_ret (Fin.then_ret (Fin.retM1 rfl rfl ?_ (fun _ _ _ _ => rfl)))))))))))))))
 · exact int_eq (by rw [rootS_found hl hi hx (by rw [hm]; assumption) (by omega) ((loose_iff hx).2 ⟨by assumption, by assumption⟩) (by assumption) (fun j h1 h2 => hno j (by omega) h2), if_neg (by omega)])
 refine Tr.skip (Fin.block (Fin.go (Tr.reg0 (cm rfl (csu rfl rfl rfl rfl (by omega) (cm rfl (Ch.nil ?_)))))))
 exact Fin.fam_same (k - 1) ⟨⟨by omega, by omega, fun j h1 h2 e he => by by_cases hj : k < j; exact hno j hj h2 e he; (obtain rfl : j = k.toNat := (by omega); rw [hx] at he; cases he; rintro ⟨ha, hb⟩; have hc := loose_of hx hb; omega)⟩, by omega⟩ (kk5 rfl)
 iterate 5 refine cnt h10 rfl ?_
 refine co rfl (kpf rfl rfl h10 rfl) (Ch.nil (Fin.go (wk6 0 1 2 4 14 76 rfl (Tr.cond rfl (fun h => nomatch h) (fun _ => ?_)))))
 refine Tr.skip (Fin.block (Fin.go (Tr.reg0 (cm rfl (csu rfl rfl rfl rfl (by omega) (cm rfl (Ch.nil ?_)))))))
 exact Fin.fam_same (k - 1) ⟨⟨by omega, by omega, fun j h1 h2 e he => by by_cases hj : k < j; exact hno j hj h2 e he; (obtain rfl : j = k.toNat := (by omega); rw [hx] at he; cases he; rintro ⟨ha, hb⟩; have hc := loose_of hx hb; exact absurd hc.1 (by assumption))⟩, by omega⟩ (kk5 rfl)
 iterate 6 refine cnt h9 rfl ?_
 refine co rfl (kpf rfl rfl h9 rfl) (cm rfl ?_)
 iterate 5 refine cnd rfl rfl ?_
 refine co rfl (kpf rfl rfl rfl rfl) (Ch.nil (Fin.go (wk6 0 1 2 4 14 76 rfl (Tr.cond rfl (fun h => nomatch h) (fun _ => ?_)))))
 refine Tr.skip (Fin.block (Fin.go (Tr.reg0 (cm rfl (csu rfl rfl rfl rfl (by omega) (cm rfl (Ch.nil ?_)))))))
 exact Fin.fam_same (k - 1) ⟨⟨by omega, by omega, fun j h1 h2 e he => by by_cases hj : k < j; exact hno j hj h2 e he; (obtain rfl : j = k.toNat := (by omega); rw [hx] at he; cases he; rintro ⟨ha, hb⟩; have hc := loose_of hx hb; exact absurd ha (by assumption))⟩, by omega⟩ (kk5 rfl)
 have := h8
 refine Tr.exit (Fin.then_exit (Fin.then_exit (Fin.block_here (Fin.go (Tr.seq (Tr.reg0 (cm rfl (cm rfl (Ch.nil (Fin.go (Tr.ret (Fin.retM1 rfl rfl ?_ (fun _ _ _ _ => rfl)))))))))))))
 · exact int_eq (by rw [rootS_lone hi (by rw [hm]; assumption) (fun j h => hno j (by omega) h)])
end Go.Proofs.YtgdlhajfajddiaaGreat
namespace Go.Proofs.YtgdlhajfajddiaaGreat
open Go Go.RowKit Cp

/-- The first k numbers of g, then z. -/
def outL (g : Nat → Int) (z : Int) (n k : Nat) : List Int := (List.range k).map g ++ List.replicate (n - k) z
theorem outL_len {g : Nat → Int} {z : Int} {n k : Nat} (h : k ≤ n) : (outL g z n k).length = n := by unfold outL; simp; omega
theorem outL_zero (g : Nat → Int) (z : Int) (n : Nat) : outL g z n 0 = List.replicate n z := by unfold outL; simp
theorem outL_full (g : Nat → Int) (z : Int) (n : Nat) : outL g z n n = (List.range n).map g := by unfold outL; simp
theorem outL_at {g : Nat → Int} {z : Int} {n k j : Nat} (h : j < k) : (outL g z n k)[j]? = some (g j) := by
  unfold outL
  rw [List.getElem?_append_left (by simpa using h), List.getElem?_map, List.getElem?_range h]; rfl
theorem outL_set {g : Nat → Int} {z : Int} {n k : Nat} (h : k < n) : (outL g z n k).set k (g k) = outL g z n (k + 1) := by
  unfold outL
  rw [show n - k = n - (k + 1) + 1 by omega, List.replicate_succ, List.set_append_right _ _ (by simp), List.range_succ]
  simp
theorem outL_store {g : Nat → Int} {z : Int} {n k : Nat} (h : k < n) : (arr (outL g z n k)).take (0 + ((k : Nat) : Int).toNat * 1) ++ [int (g k)] ++ (arr (outL g z n k)).drop (0 + ((k : Nat) : Int).toNat * 1 + 1) = arr (outL g z n (k + 1)) := by
  rw [Int.toNat_natCast, Nat.zero_add, Nat.mul_one, arr_set (by rw [outL_len (by omega)]; exact h), outL_set h]
theorem arr_rep (n : Nat) : (List.replicate n (Value.int .i64 0)).map is = arr (List.replicate n 0) := by unfold arr; simp [List.map_replicate]
theorem arr_flat (p : List Int) : arr p = (p.map fun n => [int n]).flatten := by unfold arr; induction p <;> simp_all
abbrev rootsI (l : List Fnd) (gap : Int) : List Int := (List.range l.length).map fun k => ((rootS l gap k : Nat) : Int)

set_option maxRecDepth 20000 in
theorem w_R15root {l : List Fnd} {gap : Int} (hd : DaysIn l) (hl : AdjF l) (hn : l.length ≤ 1000000) : Fun Tryz.prog 65 [fnds l, int gap] (ints (rootsI l gap)) := by
 refine Fun.of Tryz.func65 rfl rfl (by exact Nat.le_of_ble_eq_true rfl) fun M0 w0 => ?_
 refine Tr.lenm 0 rfl fun hlm_0 => (Tr.seq (Tr.reg0 (cm rfl (Ch.nil (Fin.go (Tr.seq (Tr.regT (tm rfl (tp rfl (ok_lenm rfl Tryz.underlying31 (vl rfl)) ?_)))))))))
 refine TO.mkslice rfl rfl (by decide) rfl Tryz.underlying22 sz3 by3 z3 rfl (vl rfl) (vl rfl) (by unfold maxLen; omega) (by omega) (fun b1 => ?_)
 refine tm rfl (TO.nil (Fin.go (Tr.seq (Tr.seq (Tr.reg0 (cm rfl (Ch.nil (Fin.go (Tr.block ?_)))))))))
 refine Tr.loopR [(0, _), (1, _), (5, _)] ⟨ke rfl, ke rfl, ke rfl, trivial⟩ (fun k : Nat => [(6, int ((k : Nat) : Int))]) (fun k : Nat => Hp M0 w0 noS ([cellsRes true b1 3 (arr (outL (fun _ => -1) 0 l.length k))])) (fun k : Nat => k ≤ (l).length) (fun k : Nat => (l).length - k) 0 (Nat.zero_le _) ⟨ke rfl, trivial⟩ ((by rw [arr_rep, outL_zero]; exact fun _ _ h => h)) ?_
 rintro k hle_k
 refine Tr.seq (Tr.seq (Tr.reg0 (cm rfl (cm rfl (co rfl (ok_lenm rfl Tryz.underlying31 (vl rfl)) (co rfl (ki rfl rfl rfl rfl) (Ch.nil (Fin.go ?_))))))))
 refine Tr.cn rfl ?_ ?_ <;> intro h1 q1
 have hk_k : k < (l).length := lt_of_dec h1
 obtain ⟨y, hx_k⟩ := at_ hk_k
 refine Tr.skip (Fin.go (Tr.seq (Tr.block (Tr.regT (tm rfl (tm rfl (tp rfl (okp_indexSl rfl Tryz.underlying22 sz3 (vl rfl) (vl rfl) (by omega) (by omega)) ?_)))))))
 refine TO.ef0 0 rfl rfl (ef_store rfl rfl (vl rfl) (VL.le (vl rfl) (one_cellsP _)) sz3 rfl (by unfold arr; rw [List.length_map, outL_len (by omega)]; omega) (outL_store (g := fun _ => -1) (by omega))) ?_
 refine TO.nil (Fin.block (Fin.go (Tr.reg0 (cm rfl (cad rfl rfl rfl rfl (by omega) (cm rfl (Ch.nil (Fin.fam (k + 1) ⟨hk_k, by omega⟩ ⟨⟨_, rfl, int_succ k⟩, ke rfl, ke rfl, ke rfl, trivial⟩ (fun _ _ h => h)))))))))
 have he_k : k = (l).length := by have := ge_of_dec h1; omega
 subst he_k
 refine Tr.exit (Fin.then_exit (Fin.then_exit (Fin.block_here (Fin.go (Tr.seq (Tr.seq (Tr.reg0 (cm rfl (Ch.nil (Fin.go (Tr.block ?_)))))))))))
 refine Tr.loopR [(0, _), (1, _), (5, _)] ⟨ke rfl, ke rfl, ke rfl, trivial⟩ (fun k2 : Nat => [(7, int ((k2 : Nat) : Int))]) (fun k2 : Nat => Hp M0 w0 noS ([cellsRes true b1 3 (arr (outL (fun j => ((rootS l gap j : Nat) : Int)) (-1) l.length k2))])) (fun k2 : Nat => k2 ≤ (l).length) (fun k2 : Nat => (l).length - k2) 0 (Nat.zero_le _) ⟨ke rfl, trivial⟩ ((by rw [outL_full, outL_zero, List.map_const', List.length_range]; exact fun _ _ h => h)) ?_
 rintro k2 hle_k2
 refine Tr.seq (Tr.seq (Tr.reg0 (cm rfl (cm rfl (co rfl (ok_lenm rfl Tryz.underlying31 (vl rfl)) (co rfl (ki rfl rfl rfl rfl) (Ch.nil (Fin.go ?_))))))))
 refine Tr.cn rfl ?_ ?_ <;> intro h2 q2
 have hk_k2 : k2 < (l).length := lt_of_dec h2
 obtain ⟨x, hx_k2⟩ := at_ hk_k2
 refine Tr.skip (Fin.go (Tr.seq (Tr.block (Tr.seq (Tr.reg0 (cm rfl (cm rfl (co rfl (ok_indexAddr rfl Tryz.underlying31 sz26 (vl rfl) (vl rfl) (by omega) (by exact row_at (by assumption))) ?_))))))))
 refine co rfl (kfa rfl fo26_2 rfl rfl) (co rfl (kl1 rfl one3 rfl) (cm rfl (Ch.nil (Fin.go (wk5 0 1 5 7 8 rfl (Tr.seq (Tr.seq (Tr.reg0 (cm rfl (co rfl (ki rfl rfl rfl rfl) (Ch.nil (Fin.go ?_))))))))))))
 refine Tr.cn rfl ?_ ?_ <;> intro h3 q3
 refine Tr.seq (Tr.reg0 (cm rfl (cm rfl (cm rfl (co rfl (ok_call rfl (w_R15near hd hx_k2) ⟨ke rfl, ke rfl, ke rfl, trivial⟩) (cm rfl (Ch.nil (Fin.go (Tr.seq (Tr.reg0 (cm rfl (co rfl (ki rfl rfl rfl rfl) (Ch.nil (Fin.go ?_))))))))))))))
 refine wk7 0 1 5 7 8 9 40 rfl ?_
 refine Tr.cn rfl ?_ ?_ <;> intro h4 q4
 obtain ⟨hgl, g, hg, hg0, hgh, hgd⟩ := near_get (f := x) (gap := gap) q4
 have hmk := mOf_near hx_k2 (by assumption) q4 hg
 refine Tr.reg0 (cm rfl (cm rfl (co rfl (ok_indexAddr rfl Tryz.underlying31 sz26 (vl rfl) (vl rfl) (by omega) (by exact row_at (by assumption))) ?_)))
 refine co rfl (kfa rfl fo26_2 rfl rfl) (co rfl (kl1 rfl one3 rfl) (cm rfl (Ch.nil (Fin.go (Tr.regT ?_)))))
 iterate 7 refine tm rfl ?_
 refine TO.efc 0 rfl rfl (by decide) (ef_callc rfl rfl (by decide) rfl (w_R15group (p := (outL (fun j => ((rootS l gap j : Nat) : Int)) (-1) l.length k2)) hd hl hx_k2 hmk (outL_len (by omega)) (fun j hj => outL_at hj) rfl hn) ⟨ke rfl, ke rfl, ke rfl, ⟨_, rfl, int_eq (by omega)⟩, ke rfl, trivial⟩) ?_
 refine tp rfl (okp_indexSl rfl Tryz.underlying22 sz3 (vl rfl) (vl rfl) (by omega) (by omega)) ?_
 refine TO.ef0 0 rfl rfl (ef_store rfl rfl (vl rfl) (VL.le (vl rfl) (one_cellsP _)) sz3 rfl (by unfold arr; rw [List.length_map, outL_len (by omega)]; omega) (outL_store (g := fun j => ((rootS l gap j : Nat) : Int)) (by omega))) ?_
 refine TO.nil (Fin.block (Fin.go (wk4 0 1 5 7 rfl (Tr.reg0 (cm rfl (cad rfl rfl rfl rfl (by omega) (cm rfl (Ch.nil (Fin.fam (k2 + 1) ⟨hk_k2, by omega⟩ ⟨⟨_, rfl, int_succ k2⟩, ke rfl, ke rfl, ke rfl, trivial⟩ (fun _ _ h => h))))))))))
 have hmk := mOf_loose hx_k2 (by assumption) (by omega)
 refine Tr.skip (Fin.go (Tr.regT ?_))
 iterate 7 refine tm rfl ?_
 refine TO.efc 0 rfl rfl (by decide) (ef_callc rfl rfl (by decide) rfl (w_R15group (p := (outL (fun j => ((rootS l gap j : Nat) : Int)) (-1) l.length k2)) hd hl hx_k2 hmk (outL_len (by omega)) (fun j hj => outL_at hj) rfl hn) ⟨ke rfl, ke rfl, ke rfl, ⟨_, rfl, int_eq (by omega)⟩, ke rfl, trivial⟩) ?_
 refine tp rfl (okp_indexSl rfl Tryz.underlying22 sz3 (vl rfl) (vl rfl) (by omega) (by omega)) ?_
 refine TO.ef0 0 rfl rfl (ef_store rfl rfl (vl rfl) (VL.le (vl rfl) (one_cellsP _)) sz3 rfl (by unfold arr; rw [List.length_map, outL_len (by omega)]; omega) (outL_store (g := fun j => ((rootS l gap j : Nat) : Int)) (by omega))) ?_
 refine TO.nil (Fin.block (Fin.go (wk4 0 1 5 7 rfl (Tr.reg0 (cm rfl (cad rfl rfl rfl rfl (by omega) (cm rfl (Ch.nil (Fin.fam (k2 + 1) ⟨hk_k2, by omega⟩ ⟨⟨_, rfl, int_succ k2⟩, ke rfl, ke rfl, ke rfl, trivial⟩ (fun _ _ h => h))))))))))
 have hmk := mOf_own (gap := gap) hx_k2 q3
 refine Tr.skip (Fin.go (Tr.regT ?_))
 iterate 7 refine tm rfl ?_
 refine TO.efc 0 rfl rfl (by decide) (ef_callc rfl rfl (by decide) rfl (w_R15group (p := (outL (fun j => ((rootS l gap j : Nat) : Int)) (-1) l.length k2)) hd hl hx_k2 hmk (outL_len (by omega)) (fun j hj => outL_at hj) rfl hn) ⟨ke rfl, ke rfl, ke rfl, ⟨_, rfl, int_eq (by omega)⟩, ke rfl, trivial⟩) ?_
 refine tp rfl (okp_indexSl rfl Tryz.underlying22 sz3 (vl rfl) (vl rfl) (by omega) (by omega)) ?_
 refine TO.ef0 0 rfl rfl (ef_store rfl rfl (vl rfl) (VL.le (vl rfl) (one_cellsP _)) sz3 rfl (by unfold arr; rw [List.length_map, outL_len (by omega)]; omega) (outL_store (g := fun j => ((rootS l gap j : Nat) : Int)) (by omega))) ?_
 refine TO.nil (Fin.block (Fin.go (wk4 0 1 5 7 rfl (Tr.reg0 (cm rfl (cad rfl rfl rfl rfl (by omega) (cm rfl (Ch.nil (Fin.fam (k2 + 1) ⟨hk_k2, by omega⟩ ⟨⟨_, rfl, int_succ k2⟩, ke rfl, ke rfl, ke rfl, trivial⟩ (fun _ _ h => h))))))))))
 have he_k2 : k2 = (l).length := by have := ge_of_dec h2; omega
 subst he_k2
 rw [outL_full, arr_flat, ← List.append_nil (List.flatten _)]
 refine Tr.exit (Fin.then_exit (Fin.then_exit (Fin.block_here (Fin.go (Tr.seq (Tr.reg0 (cm rfl (cm rfl (Ch.nil (Fin.go (Tr.ret ?_)))))))))))
 refine Fin.frzS (sz := 1) (cap := l.length) ((rootsI l gap).map fun n => [int n]) 0 4 rfl rfl (Pr.le_of_eq (by simp)) (map_rows fun _ => rfl) (by simp) (by unfold maxLen; omega) (by simp) ?_
 refine Fin.ret1 rfl (OutW.bse _ _) rfl ?_
 · exact andIs_le _ _
abbrev rowE (e : Ent) : List Pr := [int e.num, strs e.hosts, ints e.machines, ints e.fnds]
abbrev ents (l : List Ent) : Pr := slice 4 (l.map rowE)
theorem find_at {α : Type} {p : α → Bool} {l : List α} {k : Nat} {x : α} (hx : l[k]? = some x) (hno : (l.take k).find? p = none) (hp : p x = true) : l.find? p = some x := by
  have hk := lt_of_atX hx
  rw [List.getElem?_eq_getElem hk] at hx
  cases hx
  conv => lhs; rw [← List.take_append_drop k l, List.drop_eq_getElem_cons hk]
  rw [List.find?_append, hno, List.find?_cons_of_pos hp]; rfl
end Go.Proofs.YtgdlhajfajddiaaGreat
namespace Go.Proofs.YtgdlhajfajddiaaGreat
open Go Go.RowKit Cp

def entsTo (l : List Fnd) (gap : Int) (i : Nat) : List Ent := (rootsK (rootS l gap) i).map fun r => entK l (rootS l gap) r l.length
theorem entsTo_yes {l : List Fnd} {gap : Int} {i : Nat} (h : rootS l gap i = i) : entsTo l gap (i + 1) = entsTo l gap i ++ [entK l (rootS l gap) i l.length] := by
  unfold entsTo; rw [rootsK_succ, if_pos h, List.map_append]; rfl
theorem entsTo_no {l : List Fnd} {gap : Int} {i : Nat} (h : ¬ rootS l gap i = i) : entsTo l gap (i + 1) = entsTo l gap i := by
  unfold entsTo; rw [rootsK_succ, if_neg h, List.append_nil]
theorem entsTo_len (l : List Fnd) (gap : Int) (i : Nat) : (entsTo l gap i).length ≤ i := by
  unfold entsTo rootsK
  rw [List.length_map]
  exact Nat.le_trans (List.length_filter_le _ _) (by simp)
theorem ent_lens (l : List Fnd) (root : Nat → Nat) (r : Nat) : ∀ k, (entK l root r k).fnds.length ≤ k ∧ (entK l root r k).hosts.length ≤ k ∧ (entK l root r k).machines.length ≤ k
  | 0 => ⟨Nat.zero_le _, Nat.zero_le _, Nat.zero_le _⟩
  | k + 1 => by
    obtain ⟨h1, h2, h3⟩ := ent_lens l root r k
    by_cases h : root k = r
    · cases hf : l[k]? with
      | none =>
        have : entK l root r (k + 1) = entK l root r k := by simp only [entK, hf]
        rw [this]; omega
      | some f =>
        rw [entK_yes hf h]
        unfold entAdd
        have h4 : (insT (entK l root r k).hosts f.host).length ≤ _ := insC_len Lib.compareBytes f.host (entK l root r k).hosts
        have h5 : (insN (entK l root r k).machines f.machine).length ≤ _ := insC_len cmpI f.machine (entK l root r k).machines
        refine ⟨by simp; omega, by show (insT _ _).length ≤ _; omega, ?_⟩
        show (if f.machine = 0 then _ else _ : List Int).length ≤ _
        split <;> omega
    · rw [entK_no h]; omega
open Classical in
/-- What Entities answers. -/
noncomputable def entR (l : List Fnd) (gap : Int) : List Ent × Int := if NormP l then (if gap < 0 ∨ 4000 < gap then ([], 2) else (entsF l gap, 0)) else ([], 24)
theorem entR_odd {l : List Fnd} {gap : Int} (h : ¬ NormP l) : entR l gap = ([], 24) := by unfold entR; rw [if_neg h]
theorem entR_gap {l : List Fnd} {gap : Int} (h : NormP l) (hg : gap < 0 ∨ 4000 < gap) : entR l gap = ([], 2) := by unfold entR; rw [if_pos h, if_pos hg]
theorem entR_ok {l : List Fnd} {gap : Int} (h : NormP l) (hg : 0 ≤ gap ∧ gap ≤ 4000) : entR l gap = (entsF l gap, 0) := by unfold entR; rw [if_pos h, if_neg (by omega)]
theorem days_of {l : List Fnd} (h : NormP l) : DaysIn l := fun f hf => by
  have := h.check f hf
  unfold checkF whenF at this
  simp at this; omega
theorem rootsI_at {l : List Fnd} {gap : Int} {k : Nat} (h : k < l.length) : (rootsI l gap)[k]? = some ((rootS l gap k : Nat) : Int) := by
  unfold rootsI; rw [List.getElem?_map, List.getElem?_range h]; rfl
theorem rootsI_len (l : List Fnd) (gap : Int) : (rootsI l gap).length = l.length := by simp [rootsI]

set_option maxRecDepth 20000 in
theorem w_R15Entities {l : List Fnd} {gap : Int}  : Fun Tryz.prog 16 [fnds l, int gap] (tup [ents (entR l gap).1, int (entR l gap).2]) := by
  refine Fun.of Tryz.func16 rfl rfl (by exact Nat.le_of_ble_eq_true rfl) fun M0 w0 => ?_
  haveI := Classical.propDecidable (NormP l)
  refine Tr.seq ?_
  refine Tr.reg0 ?_
  refine Ch.op rfl rfl (by decide) (ok_assign rfl (vl rfl)) ?_
  refine Ch.op rfl rfl (by decide) (ok_assign rfl (vl rfl)) ?_
  refine Ch.nil ?_
  refine Fin.go ?_
  refine Tr.seq ?_
  refine Tr.seq ?_
  refine Tr.reg0 ?_
  refine Ch.op rfl rfl (by decide) (ok_move rfl (vl rfl)) ?_
  refine Ch.op rfl rfl (by decide) (ok_call rfl (w_R14Normal) ⟨⟨_, rfl, Pr.le_refl _⟩, trivial⟩) ?_
  refine Ch.op rfl rfl (by decide) (ok_not rfl (vl rfl)) ?_
  refine Ch.nil ?_
  refine Fin.go ?_
  refine Tr.cond rfl (fun h1 => ?_) (fun h1 => ?_)
  ·
    have q1 := Nrm.nrm h1
    have hN : ¬ NormP l := by simpa using h1
    refine Tr.seq ?_
    refine Tr.reg0 ?_
    refine Ch.op rfl rfl (by decide) (ok_assign rfl (vl rfl)) ?_
    refine Ch.op rfl rfl (by decide) (ok_assign rfl (vl rfl)) ?_
    refine Ch.nil ?_
    refine Fin.go ?_
    refine Tr.ret ?_
    refine Fin.then_ret ?_
    refine Fin.ret2 rfl (OutW.bse _ _) rfl ?_ rfl ?_
    · rw [entR_odd hN]; exact nil_slice 4
    · rw [entR_odd hN]; exact Pr.le_refl _
  ·
    have q1 := Nrm.nrm h1
    have hN : NormP l := by simpa using h1
    have hlen := hN.len
    have hrl := rootsI_len l gap
    refine Tr.skip ?_
    refine Fin.go ?_
    refine Tr.seq ?_
    refine Tr.seq ?_
    refine Tr.reg0 ?_
    refine Ch.op rfl rfl (by decide) (ok_move rfl (vl rfl)) ?_
    refine Ch.op rfl rfl (by decide) (ok_int rfl (vl rfl) (vl rfl) rfl) ?_
    refine Ch.op rfl rfl (by decide) (ok_move rfl (vl rfl)) ?_
    refine Ch.cases 16 rfl (fun h2 => ?_) (fun h2 => ?_)
    ·
      have q2 := Nrm.nrm h2
      refine Ch.no rfl rfl rfl (ne_false h2) rfl (by decide) ?_
      refine Ch.no rfl rfl rfl (ne_false h2) rfl (by decide) ?_
      refine Ch.op rfl rfl (by decide) (ok_pick_t rfl (vl rfl) h2 (vl rfl)) ?_
      refine Ch.nil ?_
      refine Fin.go ?_
      refine Tr.cond rfl (fun _ => ?_) (fun h => nomatch h)
      refine Tr.seq ?_
      refine Tr.reg0 ?_
      refine Ch.op rfl rfl (by decide) (ok_assign rfl (vl rfl)) ?_
      refine Ch.op rfl rfl (by decide) (ok_assign rfl (vl rfl)) ?_
      refine Ch.nil ?_
      refine Fin.go ?_
      refine Tr.ret ?_
      refine Fin.then_ret ?_
      refine Fin.ret2 rfl (OutW.bse _ _) rfl ?_ rfl ?_
      · rw [entR_gap hN (by omega)]; exact nil_slice 4
      · rw [entR_gap hN (by omega)]; exact Pr.le_refl _
    ·
      have q2 := Nrm.nrm h2
      refine Ch.yes rfl rfl rfl h2 rfl (by decide) (ok_move rfl (vl rfl)) ?_
      refine Ch.yes rfl rfl rfl h2 rfl (by decide) (ok_int rfl (vl rfl) (vl rfl) rfl) ?_
      refine Ch.op rfl rfl (by decide) (ok_pick_f rfl (vl rfl) h2 (vl rfl)) ?_
      refine Ch.nil ?_
      refine Fin.go ?_
      refine Tr.cond rfl (fun h3 => ?_) (fun h3 => ?_)
      ·
        have q3 := Nrm.nrm h3
        refine Tr.seq ?_
        refine Tr.reg0 ?_
        refine Ch.op rfl rfl (by decide) (ok_assign rfl (vl rfl)) ?_
        refine Ch.op rfl rfl (by decide) (ok_assign rfl (vl rfl)) ?_
        refine Ch.nil ?_
        refine Fin.go ?_
        refine Tr.ret ?_
        refine Fin.then_ret ?_
        refine Fin.ret2 rfl (OutW.bse _ _) rfl ?_ rfl ?_
        · rw [entR_gap hN (by omega)]; exact nil_slice 4
        · rw [entR_gap hN (by omega)]; exact Pr.le_refl _
      ·
        have q3 := Nrm.nrm h3
        refine Tr.skip ?_
        refine Fin.go ?_
        refine Tr.seq ?_
        refine Tr.reg0 ?_
        refine Ch.op rfl rfl (by decide) (ok_move rfl (vl rfl)) ?_
        refine Ch.op rfl rfl (by decide) (ok_move rfl (vl rfl)) ?_
        refine Ch.op rfl rfl (by decide) (ok_call rfl (w_R15root (days_of hN) hN.adj (by omega)) ⟨⟨_, rfl, Pr.le_refl _⟩, ⟨_, rfl, Pr.le_refl _⟩, trivial⟩) ?_
        refine Ch.op rfl rfl (by decide) (ok_assign rfl (vl rfl)) ?_
        refine Ch.nil ?_
        refine Fin.go ?_
        refine Tr.weak [(0, _), (6, _)] ⟨⟨_, rfl, Pr.le_refl _⟩, ⟨_, rfl, Pr.le_refl _⟩, trivial⟩ ?_
        refine Tr.seq ?_
        refine Tr.reg0 ?_
        refine Ch.op rfl rfl (by decide) (ok_assign rfl (vl rfl)) ?_
        refine Ch.nil ?_
        refine Fin.go ?_
        refine Tr.seq ?_
        refine Tr.seq ?_
        refine Tr.reg0 ?_
        refine Ch.op rfl rfl (by decide) (ok_assign rfl (vl rfl)) ?_
        refine Ch.nil ?_
        refine Fin.go ?_
        refine Tr.block ?_
        refine Tr.addnil 55 4 ?_
        refine Tr.loopV1 [(0, _), (6, _)] ⟨⟨_, rfl, Pr.le_refl _⟩, ⟨_, rfl, Pr.le_refl _⟩, trivial⟩ (fun i v => [(8, int ((i : Nat) : Int)), (7, andIs v (ents (entsTo l gap i)))]) (fun i v => Hp M0 w0 noS ([appRes 55 4 v])) (fun i : Nat => i ≤ (l).length) (fun i : Nat => (l).length - i) 0 (.slice none 0 0) (Nat.zero_le _) ⟨⟨_, rfl, Pr.le_refl _⟩, ⟨_, rfl, own_nil rfl⟩, trivial⟩ (fun _ _ h => h) ?_
        rintro i v hle_i
        refine Tr.seq ?_
        refine Tr.seq ?_
        refine Tr.reg0 ?_
        refine Ch.op rfl rfl (by decide) (ok_move rfl (vl rfl)) ?_
        refine Ch.op rfl rfl (by decide) (ok_move rfl (vl rfl)) ?_
        first
          | refine Ch.op rfl rfl (by decide) (ok_lenm rfl Tryz.underlying31 (vl rfl)) ?_
          | refine Ch.op rfl rfl (by decide) (ok_len rfl Tryz.underlying31 (vl rfl)) ?_
        refine Ch.op rfl rfl (by decide) (ok_int rfl (vl rfl) (vl rfl) rfl) ?_
        refine Ch.nil ?_
        refine Fin.go ?_
        refine Tr.cond rfl (fun h4 => ?_) (fun h4 => ?_)
        ·
          have q4 := Nrm.nrm h4
          have hk_i : i < (l).length := lt_of_dec h4
          obtain ⟨f, hx_i⟩ := at_ hk_i
          have htl := entsTo_len l gap i
          refine Tr.skip ?_
          refine Fin.go ?_
          refine Tr.seq ?_
          refine Tr.block ?_
          refine Tr.seq ?_
          refine Tr.seq ?_
          refine Tr.reg0 ?_
          refine Ch.op rfl rfl (by decide) (ok_move rfl (vl rfl)) ?_
          refine Ch.op rfl rfl (by decide) (ok_move rfl (vl rfl)) ?_
          refine Ch.op rfl rfl (by decide) (ok_indexAddr rfl Tryz.underlying22 sz3 (vl rfl) (vl rfl) (by omega) (row_at (rootsI_at hk_i))) ?_
          refine Ch.op rfl rfl (by decide) (ok_load1 rfl one3 (vl rfl)) ?_
          refine Ch.op rfl rfl (by decide) (ok_move rfl (vl rfl)) ?_
          refine Ch.op rfl rfl (by decide) (ok_int rfl (vl rfl) (vl rfl) rfl) ?_
          refine Ch.nil ?_
          refine Fin.go ?_
          refine Tr.weak [(0, _), (6, _), (7, _), (8, _), (34, _)] ⟨⟨_, rfl, Pr.le_refl _⟩, ⟨_, rfl, Pr.le_refl _⟩, ⟨_, rfl, Pr.le_refl _⟩, ⟨_, rfl, Pr.le_refl _⟩, ⟨_, rfl, Pr.le_refl _⟩, trivial⟩ ?_
          refine Tr.cond rfl (fun h5 => ?_) (fun h5 => ?_)
          ·
            have q5 := Nrm.nrm h5
            refine Tr.exit ?_
            refine Fin.then_exit ?_
            refine Fin.block_here ?_
            refine Fin.go ?_
            refine Tr.reg0 ?_
            refine Ch.op rfl rfl (by decide) (ok_move rfl (vl rfl)) ?_
            first
              | (refine Ch.op rfl rfl (by decide) (ok_add rfl (vl rfl) (vl rfl) ?hin) ?_; case hin => unfold InI; omega)
              | refine Ch.op rfl rfl (by decide) (ok_int rfl (vl rfl) (vl rfl) rfl) ?_
            refine Ch.op rfl rfl (by decide) (ok_assign rfl (vl rfl)) ?_
            refine Ch.nil ?_
            exact Fin.famV1 (i + 1) v (⟨hk_i, by omega⟩) ⟨⟨_, rfl, int_succ i⟩, ⟨_, rfl, own_le (by first | rw [entsTo_no (by omega)] | (rw [entsTo_yes (by omega), List.map_append]; rfl))⟩, ⟨_, rfl, Pr.le_refl _⟩, ⟨_, rfl, Pr.le_refl _⟩, trivial⟩ (fun _ _ h => h)
          ·
            have q5 := Nrm.nrm h5
            refine Tr.skip ?_
            refine Fin.go ?_
            refine Tr.seq ?_
            refine Tr.regT ?_
            refine TO.op rfl rfl (by decide) (ok_move rfl (vl rfl)) ?_
            refine TO.op rfl rfl (by decide) (ok_build (rows := [(0, [_])]) rfl bl55 zo55 ⟨⟨rfl, (VL.le (vl rfl) (one_cellsP _))⟩, trivial⟩ rfl) ?_
            refine TO.alloc rfl rfl (by decide) rfl z55 zo55 (fun b1 => ?_)
            refine TO.store_all 0 rfl rfl rfl (vl rfl) (VL.le (vl rfl) (agg_cellsP _)) rfl sz55 rfl rfl ?_
            refine TO.nil ?_
            refine Fin.go ?_
            refine Tr.seq ?_
            refine Tr.seq ?_
            refine Tr.reg0 ?_
            refine Ch.op rfl rfl (by decide) (ok_move rfl (vl rfl)) ?_
            refine Ch.op rfl rfl (by decide) (ok_assign rfl (vl rfl)) ?_
            refine Ch.nil ?_
            refine Fin.go ?_
            refine Tr.block ?_
            have hent := entK_none (l := l) (rootS_le l gap) (r := i) i (Nat.le_refl _)
            refine Tr.reC 0 [int ((i : Nat) : Int), strs (entK l (rootS l gap) i i).hosts, ints (entK l (rootS l gap) i i).machines, andIs (.slice none 0 0) (ints (entK l (rootS l gap) i i).fnds)] rfl ⟨Pr.le_refl _, by rw [hent]; exact nil_slice 1, by rw [hent]; exact nil_slice 1, by rw [hent]; exact own_nil rfl, trivial⟩ ?_
            refine Tr.addnil 3 1 ?_
            refine Tr.loopD1V1 [(0, _), (6, _), (7, _), (8, _), (9, _)] ⟨⟨_, rfl, Pr.le_refl _⟩, ⟨_, rfl, Pr.le_refl _⟩, ⟨_, rfl, Pr.le_refl _⟩, ⟨_, rfl, Pr.le_refl _⟩, ⟨_, rfl, Pr.le_refl _⟩, trivial⟩ (fun (k : Nat) w => [(10, int ((k : Nat) : Int))]) (fun (k : Nat) w => Hp M0 w0 noS ([appRes 3 1 w, cellsRes true b1 55 [int ((i : Nat) : Int), strs (entK l (rootS l gap) i k).hosts, ints (entK l (rootS l gap) i k).machines, andIs w (ints (entK l (rootS l gap) i k).fnds)], appRes 55 4 v])) (fun (k : Nat) => i ≤ k ∧ k ≤ l.length) (fun (k : Nat) => l.length - k) (i) (.slice none 0 0) (⟨Nat.le_refl _, by omega⟩) ⟨⟨_, rfl, Pr.le_refl _⟩, trivial⟩ (fun _ _ h => h) ?_
            rintro k w ⟨hik, hkl0⟩
            refine Tr.seq ?_
            refine Tr.seq ?_
            refine Tr.reg0 ?_
            refine Ch.op rfl rfl (by decide) (ok_move rfl (vl rfl)) ?_
            refine Ch.op rfl rfl (by decide) (ok_move rfl (vl rfl)) ?_
            first
              | refine Ch.op rfl rfl (by decide) (ok_lenm rfl Tryz.underlying31 (vl rfl)) ?_
              | refine Ch.op rfl rfl (by decide) (ok_len rfl Tryz.underlying31 (vl rfl)) ?_
            refine Ch.op rfl rfl (by decide) (ok_int rfl (vl rfl) (vl rfl) rfl) ?_
            refine Ch.nil ?_
            refine Fin.go ?_
            refine Tr.cond rfl (fun h6 => ?_) (fun h6 => ?_)
            ·
              have q6 := Nrm.nrm h6
              have hkl : k < l.length := lt_of_dec h6
              obtain ⟨x, hx⟩ := at_ hkl
              have hEl := ent_lens l (rootS l gap) i k
              refine Tr.skip ?_
              refine Fin.go ?_
              refine Tr.seq ?_
              refine Tr.block ?_
              refine Tr.seq ?_
              refine Tr.seq ?_
              refine Tr.reg0 ?_
              refine Ch.op rfl rfl (by decide) (ok_move rfl (vl rfl)) ?_
              refine Ch.op rfl rfl (by decide) (ok_move rfl (vl rfl)) ?_
              refine Ch.op rfl rfl (by decide) (ok_indexAddr rfl Tryz.underlying22 sz3 (vl rfl) (vl rfl) (by omega) (row_at (rootsI_at hkl))) ?_
              refine Ch.op rfl rfl (by decide) (ok_load1 rfl one3 (vl rfl)) ?_
              refine Ch.op rfl rfl (by decide) (ok_move rfl (vl rfl)) ?_
              refine Ch.op rfl rfl (by decide) (ok_int rfl (vl rfl) (vl rfl) rfl) ?_
              refine Ch.nil ?_
              refine Fin.go ?_
              refine Tr.weak [(0, _), (6, _), (7, _), (8, _), (9, _), (10, _), (49, _)] ⟨⟨_, rfl, Pr.le_refl _⟩, ⟨_, rfl, Pr.le_refl _⟩, ⟨_, rfl, Pr.le_refl _⟩, ⟨_, rfl, Pr.le_refl _⟩, ⟨_, rfl, Pr.le_refl _⟩, ⟨_, rfl, Pr.le_refl _⟩, ⟨_, rfl, Pr.le_refl _⟩, trivial⟩ ?_
              refine Tr.cond rfl (fun h7 => ?_) (fun h7 => ?_)
              ·
                have q7 := Nrm.nrm h7
                refine Tr.exit ?_
                refine Fin.then_exit ?_
                refine Fin.block_here ?_
                refine Fin.go ?_
                refine Tr.reg0 ?_
                refine Ch.op rfl rfl (by decide) (ok_move rfl (vl rfl)) ?_
                first
                  | (refine Ch.op rfl rfl (by decide) (ok_add rfl (vl rfl) (vl rfl) ?hin) ?_; case hin => unfold InI; omega)
                  | refine Ch.op rfl rfl (by decide) (ok_int rfl (vl rfl) (vl rfl) rfl) ?_
                refine Ch.op rfl rfl (by decide) (ok_assign rfl (vl rfl)) ?_
                refine Ch.nil ?_
                first
                  | (have hst := entK_no (l := l) (root := rootS l gap) (r := i) (n := k) (by omega)
                     refine Fin.reC 1 [int ((i : Nat) : Int), strs (entK l (rootS l gap) i (k + 1)).hosts, ints (entK l (rootS l gap) i (k + 1)).machines, andIs _ (ints (entK l (rootS l gap) i (k + 1)).fnds)] rfl ⟨Pr.le_refl _, by rw [hst]; exact Pr.le_refl _, by rw [hst]; exact Pr.le_refl _, by rw [hst]; exact Pr.le_refl _, trivial⟩ ?_)
                  | (have hst := entK_yes (root := rootS l gap) (r := i) hx (by omega)
                     refine Fin.reC 1 [int ((i : Nat) : Int), strs (entK l (rootS l gap) i (k + 1)).hosts, ints (entK l (rootS l gap) i (k + 1)).machines, andIs _ (ints (entK l (rootS l gap) i (k + 1)).fnds)] rfl ⟨Pr.le_refl _, by rw [hst]; exact Pr.le_refl _, by rw [hst]; unfold entAdd; first | (rw [if_pos (by assumption)]; exact Pr.le_refl _) | (rw [if_neg (by assumption)]; exact Pr.le_refl _), own_le (by rw [hst]; unfold entAdd; simp), trivial⟩ ?_)
                exact Fin.famD1V1 (k + 1) w (⟨⟨by omega, by omega⟩, by omega⟩) ⟨⟨_, rfl, int_succ k⟩, ⟨_, rfl, Pr.le_refl _⟩, ⟨_, rfl, Pr.le_refl _⟩, ⟨_, rfl, Pr.le_refl _⟩, ⟨_, rfl, Pr.le_refl _⟩, ⟨_, rfl, Pr.le_refl _⟩, trivial⟩ (fun _ _ h => h)
              ·
                have q7 := Nrm.nrm h7
                refine Tr.skip ?_
                refine Fin.go ?_
                refine Tr.seq ?_
                refine Tr.regT ?_
                refine TO.op rfl rfl (by decide) (okp_fieldAddr rfl fo55_3 (vl rfl)) ?_
                refine TO.rd 1 rfl rfl rfl (by decide) (rd_load1 rfl one22 (vl rfl) rfl) ?_
                refine TO.op rfl rfl (by decide) (ok_move rfl (vl rfl)) ?_
                refine TO.op rfl rfl (by decide) (ok_buildSlice (xs := [.tmp 52]) (rows := [[_]]) rfl rfl Tryz.underlying22 sz3 z3 rfl (by decide) ⟨⟨(by exact rfl), (VL.le (vl rfl) (one_cellsP _))⟩, trivial⟩ (by decide)) ?_
                refine TO.efs 0 rfl rfl (by decide) (ef_append rfl rfl (by decide) rfl Tryz.underlying22 sz3 by3 z3 rfl (by decide) ⟨_, rfl, andIs_le _ _⟩ ⟨_, rfl, full_le _ _⟩ (by simp only [List.length_map, List.length_append, List.length_cons, List.length_nil]; unfold maxLen; omega) (by simp only [List.length_map, List.length_append, List.length_cons, List.length_nil]; omega) (appR_is (by exact List.Mem.head _) ⟨_, rfl, andIs_is _ _⟩)) (fun v1 => ?_)
                refine TO.op rfl rfl (by decide) (okp_fieldAddr rfl fo55_3 (vl rfl)) ?_
                refine TO.ef0 1 rfl rfl (ef_store rfl rfl (vl rfl) (VL.le (vl rfl) (one_cellsP _)) sz22 rfl (by exact Nat.le_of_ble_eq_true rfl) rfl) ?_
                refine TO.nil ?_
                refine Fin.go ?_
                refine Tr.seq ?_
                refine Tr.regX mixed [none, some (0, 1, false, 0), none, none, none, none, none, none, none, some (0, 1, true, 0)] (by kernel_rfl) ?_
                refine Cx.op rfl rfl (by decide) (fun _ => okp_fieldAddr rfl fo55_1 (vl rfl)) ?_
                refine Cx.rd 1 rfl rfl rfl (by decide) (rd_load1 rfl one53 (vl rfl) rfl) ?_
                refine Cx.op rfl rfl (by decide) (fun _ => ok_move rfl (vl rfl)) ?_
                refine Cx.op rfl rfl (by decide) (fun _ => ok_move rfl (vl rfl)) ?_
                refine Cx.op rfl rfl (by decide) (fun _ => ok_indexAddr rfl Tryz.underlying31 sz26 (vl rfl) (vl rfl) (by omega) (row_at hx)) ?_
                refine Cx.op rfl rfl (by decide) (fun _ => ok_fieldAddr rfl fo26_1 (vl rfl) rfl) ?_
                refine Cx.op rfl rfl (by decide) (fun _ => ok_load1 rfl one9 (vl rfl)) ?_
                refine Cx.op rfl rfl (by decide) (fun _ => ok_call rfl (w_textPut (by omega)) ⟨⟨_, rfl, Pr.le_refl _⟩, ⟨_, rfl, Pr.le_refl _⟩, trivial⟩) ?_
                refine Cx.op rfl rfl (by decide) (fun _ => okp_fieldAddr rfl fo55_1 (vl rfl)) ?_
                refine Cx.ef0 1 rfl rfl (ef_store rfl rfl (vl rfl) (VL.le (vl rfl) (one_cellsP _)) sz53 rfl (by exact Nat.le_of_ble_eq_true rfl) rfl) ?_
                refine Cx.nil ⟨rfl, ?_⟩
                refine FinX.done (AllC.cons (AllC.cons (AllC.cons (AllC.map _)))) ?_
                refine Fin.go ?_
                refine Tr.weak [(0, _), (6, _), (7, _), (8, _), (9, _), (10, _)] ⟨⟨_, rfl, Pr.le_refl _⟩, ⟨_, rfl, Pr.le_refl _⟩, ⟨_, rfl, Pr.le_refl _⟩, ⟨_, rfl, Pr.le_refl _⟩, ⟨_, rfl, Pr.le_refl _⟩, ⟨_, rfl, Pr.le_refl _⟩, trivial⟩ ?_
                refine Tr.seq ?_
                refine Tr.reg0 ?_
                refine Ch.op rfl rfl (by decide) (ok_move rfl (vl rfl)) ?_
                refine Ch.op rfl rfl (by decide) (ok_move rfl (vl rfl)) ?_
                refine Ch.op rfl rfl (by decide) (ok_indexAddr rfl Tryz.underlying31 sz26 (vl rfl) (vl rfl) (by omega) (row_at hx)) ?_
                refine Ch.op rfl rfl (by decide) (ok_fieldAddr rfl fo26_2 (vl rfl) rfl) ?_
                refine Ch.op rfl rfl (by decide) (ok_load1 rfl one3 (vl rfl)) ?_
                refine Ch.op rfl rfl (by decide) (ok_int rfl (vl rfl) (vl rfl) rfl) ?_
                refine Ch.nil ?_
                refine Fin.go ?_
                refine Tr.cond rfl (fun h8 => ?_) (fun h8 => ?_)
                ·
                  have q8 := Nrm.nrm h8
                  refine Tr.regX mixed [none, some (0, 1, false, 0), none, none, none, none, none, none, none, some (0, 1, true, 0)] (by kernel_rfl) ?_
                  refine Cx.op rfl rfl (by decide) (fun _ => okp_fieldAddr rfl fo55_2 (vl rfl)) ?_
                  refine Cx.rd 1 rfl rfl rfl (by decide) (rd_load1 rfl one22 (vl rfl) rfl) ?_
                  refine Cx.op rfl rfl (by decide) (fun _ => ok_move rfl (vl rfl)) ?_
                  refine Cx.op rfl rfl (by decide) (fun _ => ok_move rfl (vl rfl)) ?_
                  refine Cx.op rfl rfl (by decide) (fun _ => ok_indexAddr rfl Tryz.underlying31 sz26 (vl rfl) (vl rfl) (by omega) (row_at hx)) ?_
                  refine Cx.op rfl rfl (by decide) (fun _ => ok_fieldAddr rfl fo26_2 (vl rfl) rfl) ?_
                  refine Cx.op rfl rfl (by decide) (fun _ => ok_load1 rfl one3 (vl rfl)) ?_
                  refine Cx.op rfl rfl (by decide) (fun _ => ok_call rfl (w_numberPut (by omega)) ⟨⟨_, rfl, Pr.le_refl _⟩, ⟨_, rfl, Pr.le_refl _⟩, trivial⟩) ?_
                  refine Cx.op rfl rfl (by decide) (fun _ => okp_fieldAddr rfl fo55_2 (vl rfl)) ?_
                  refine Cx.ef0 1 rfl rfl (ef_store rfl rfl (vl rfl) (VL.le (vl rfl) (one_cellsP _)) sz22 rfl (by exact Nat.le_of_ble_eq_true rfl) rfl) ?_
                  refine Cx.nil ⟨rfl, ?_⟩
                  refine FinX.done (AllC.cons (AllC.cons (AllC.cons (AllC.map _)))) ?_
                  refine Fin.block ?_
                  refine Fin.go ?_
                  refine Tr.weak [(0, _), (6, _), (7, _), (8, _), (9, _), (10, _)] ⟨⟨_, rfl, Pr.le_refl _⟩, ⟨_, rfl, Pr.le_refl _⟩, ⟨_, rfl, Pr.le_refl _⟩, ⟨_, rfl, Pr.le_refl _⟩, ⟨_, rfl, Pr.le_refl _⟩, ⟨_, rfl, Pr.le_refl _⟩, trivial⟩ ?_
                  refine Tr.reg0 ?_
                  refine Ch.op rfl rfl (by decide) (ok_move rfl (vl rfl)) ?_
                  first
                    | (refine Ch.op rfl rfl (by decide) (ok_add rfl (vl rfl) (vl rfl) ?hin) ?_; case hin => unfold InI; omega)
                    | refine Ch.op rfl rfl (by decide) (ok_int rfl (vl rfl) (vl rfl) rfl) ?_
                  refine Ch.op rfl rfl (by decide) (ok_assign rfl (vl rfl)) ?_
                  refine Ch.nil ?_
                  first
                    | (have hst := entK_no (l := l) (root := rootS l gap) (r := i) (n := k) (by omega)
                       refine Fin.reC 1 [int ((i : Nat) : Int), strs (entK l (rootS l gap) i (k + 1)).hosts, ints (entK l (rootS l gap) i (k + 1)).machines, andIs _ (ints (entK l (rootS l gap) i (k + 1)).fnds)] rfl ⟨Pr.le_refl _, by rw [hst]; exact Pr.le_refl _, by rw [hst]; exact Pr.le_refl _, by rw [hst]; exact Pr.le_refl _, trivial⟩ ?_)
                    | (have hst := entK_yes (root := rootS l gap) (r := i) hx (by omega)
                       refine Fin.reC 1 [int ((i : Nat) : Int), strs (entK l (rootS l gap) i (k + 1)).hosts, ints (entK l (rootS l gap) i (k + 1)).machines, andIs _ (ints (entK l (rootS l gap) i (k + 1)).fnds)] rfl ⟨Pr.le_refl _, by rw [hst]; exact Pr.le_refl _, by rw [hst]; unfold entAdd; first | (rw [if_pos (by assumption)]; exact Pr.le_refl _) | (rw [if_neg (by assumption)]; exact Pr.le_refl _), own_le (by rw [hst]; unfold entAdd; simp), trivial⟩ ?_)
                  exact Fin.famD1V1 (k + 1) v1 (⟨⟨by omega, by omega⟩, by omega⟩) ⟨⟨_, rfl, int_succ k⟩, ⟨_, rfl, Pr.le_refl _⟩, ⟨_, rfl, Pr.le_refl _⟩, ⟨_, rfl, Pr.le_refl _⟩, ⟨_, rfl, Pr.le_refl _⟩, ⟨_, rfl, Pr.le_refl _⟩, trivial⟩ (fun _ _ h => h)
                ·
                  have q8 := Nrm.nrm h8
                  refine Tr.skip ?_
                  refine Fin.block ?_
                  refine Fin.go ?_
                  refine Tr.reg0 ?_
                  refine Ch.op rfl rfl (by decide) (ok_move rfl (vl rfl)) ?_
                  first
                    | (refine Ch.op rfl rfl (by decide) (ok_add rfl (vl rfl) (vl rfl) ?hin) ?_; case hin => unfold InI; omega)
                    | refine Ch.op rfl rfl (by decide) (ok_int rfl (vl rfl) (vl rfl) rfl) ?_
                  refine Ch.op rfl rfl (by decide) (ok_assign rfl (vl rfl)) ?_
                  refine Ch.nil ?_
                  first
                    | (have hst := entK_no (l := l) (root := rootS l gap) (r := i) (n := k) (by omega)
                       refine Fin.reC 1 [int ((i : Nat) : Int), strs (entK l (rootS l gap) i (k + 1)).hosts, ints (entK l (rootS l gap) i (k + 1)).machines, andIs _ (ints (entK l (rootS l gap) i (k + 1)).fnds)] rfl ⟨Pr.le_refl _, by rw [hst]; exact Pr.le_refl _, by rw [hst]; exact Pr.le_refl _, by rw [hst]; exact Pr.le_refl _, trivial⟩ ?_)
                    | (have hst := entK_yes (root := rootS l gap) (r := i) hx (by omega)
                       refine Fin.reC 1 [int ((i : Nat) : Int), strs (entK l (rootS l gap) i (k + 1)).hosts, ints (entK l (rootS l gap) i (k + 1)).machines, andIs _ (ints (entK l (rootS l gap) i (k + 1)).fnds)] rfl ⟨Pr.le_refl _, by rw [hst]; exact Pr.le_refl _, by rw [hst]; unfold entAdd; first | (rw [if_pos (by assumption)]; exact Pr.le_refl _) | (rw [if_neg (by assumption)]; exact Pr.le_refl _), own_le (by rw [hst]; unfold entAdd; simp), trivial⟩ ?_)
                  exact Fin.famD1V1 (k + 1) v1 (⟨⟨by omega, by omega⟩, by omega⟩) ⟨⟨_, rfl, int_succ k⟩, ⟨_, rfl, Pr.le_refl _⟩, ⟨_, rfl, Pr.le_refl _⟩, ⟨_, rfl, Pr.le_refl _⟩, ⟨_, rfl, Pr.le_refl _⟩, ⟨_, rfl, Pr.le_refl _⟩, trivial⟩ (fun _ _ h => h)
            ·
              have q6 := Nrm.nrm h6
              obtain rfl : k = l.length := (by have := ge_of_dec h6; omega)
              refine Tr.exit ?_
              refine Fin.then_exit ?_
              refine Fin.then_exit ?_
              refine Fin.block_here ?_
              refine Fin.go ?_
              refine Tr.reC 1 (rowE (entK l (rootS l gap) i l.length)) rfl ⟨int_eq (ent_num _ _ _ _).symm, Pr.le_refl _, Pr.le_refl _, andIs_le _ _, trivial⟩ ?_
              refine Tr.regT ?_
              refine TO.op rfl rfl (by decide) (ok_move rfl (vl rfl)) ?_
              refine TO.rd 1 rfl rfl rfl (by decide) (rd_loadA rfl agg55 sz55 (vl rfl) rfl rfl) ?_
              refine TO.op rfl rfl (by decide) (ok_buildSlice (xs := [.tmp 81]) (rows := [_]) rfl rfl Tryz.underlying35 sz55 z55 rfl (by decide) ⟨⟨(by exact rfl), (VL.le (vl rfl) (agg_cellsP _))⟩, trivial⟩ (by decide)) ?_
              refine TO.efs 2 rfl rfl (by decide) (ef_append rfl rfl (by decide) rfl Tryz.underlying35 sz55 by55 z55 rfl (by decide) ⟨_, rfl, andIs_le _ _⟩ ⟨_, rfl, full_le _ _⟩ (by simp only [List.length_map, List.length_append, List.length_cons, List.length_nil]; unfold maxLen; omega) (by simp only [List.length_map, List.length_append, List.length_cons, List.length_nil]; omega) (appR_is (by exact List.Mem.head _) ⟨_, rfl, andIs_is _ _⟩)) (fun v2 => ?_)
              refine TO.op rfl rfl (by decide) (ok_assign rfl (vl rfl)) ?_
              refine TO.nil ?_
              refine Fin.block ?_
              refine Fin.go ?_
              refine Tr.weak [(0, _), (6, _), (7, _), (8, _)] ⟨⟨_, rfl, Pr.le_refl _⟩, ⟨_, rfl, Pr.le_refl _⟩, ⟨_, rfl, Pr.le_refl _⟩, ⟨_, rfl, Pr.le_refl _⟩, trivial⟩ ?_
              refine Tr.reg0 ?_
              refine Ch.op rfl rfl (by decide) (ok_move rfl (vl rfl)) ?_
              first
                | (refine Ch.op rfl rfl (by decide) (ok_add rfl (vl rfl) (vl rfl) ?hin) ?_; case hin => unfold InI; omega)
                | refine Ch.op rfl rfl (by decide) (ok_int rfl (vl rfl) (vl rfl) rfl) ?_
              refine Ch.op rfl rfl (by decide) (ok_assign rfl (vl rfl)) ?_
              refine Ch.nil ?_
              refine Fin.drop 0 ?_
              refine Fin.drop 0 ?_
              exact Fin.famV1 (i + 1) v2 (⟨hk_i, by omega⟩) ⟨⟨_, rfl, int_succ i⟩, ⟨_, rfl, own_le (by first | rw [entsTo_no (by omega)] | (rw [entsTo_yes (by omega), List.map_append]; rfl))⟩, ⟨_, rfl, Pr.le_refl _⟩, ⟨_, rfl, Pr.le_refl _⟩, trivial⟩ (fun _ _ h => h)
        ·
          have q4 := Nrm.nrm h4
          have he_i : i = (l).length := by have := ge_of_dec h4; omega
          subst he_i
          refine Tr.exit ?_
          refine Fin.then_exit ?_
          refine Fin.then_exit ?_
          refine Fin.block_here ?_
          refine Fin.go ?_
          refine Tr.seq ?_
          refine Tr.reg0 ?_
          refine Ch.op rfl rfl (by decide) (ok_move rfl (vl rfl)) ?_
          refine Ch.op rfl rfl (by decide) (ok_assign rfl (vl rfl)) ?_
          refine Ch.op rfl rfl (by decide) (ok_assign rfl (vl rfl)) ?_
          refine Ch.nil ?_
          refine Fin.go ?_
          refine Tr.ret ?_
          refine Fin.ret2 rfl (OutW.bse _ _) rfl ?_ rfl ?_
          · rw [entR_ok hN (by omega)]; exact andIs_le _ _
          · rw [entR_ok hN (by omega)]; exact Pr.le_refl _
end Go.Proofs.YtgdlhajfajddiaaGreat
namespace Go.Proofs.YtgdlhajfajddiaaGreat
open Go Go.RowKit Cp
set_option maxRecDepth 20000 in
theorem w_distance {f g : Fnd} (hf : 0 ≤ f.day ∧ f.day ≤ 40000) (hg : 0 ≤ g.day ∧ g.day ≤ 40000) : Fun Tryz.prog 111 [agg (rowF f), agg (rowF g)] (int (dist f g)) := by
 refine Fun.of Tryz.func111 rfl rfl (by exact Nat.le_of_ble_eq_true rfl) fun M0 w0 => ?_
 refine Tr.seq (Tr.reg0 (co rfl (ok_box rfl (VL.le (vl rfl) (agg_cellsP _))) (co rfl (ok_box rfl (VL.le (vl rfl) (agg_cellsP _))) (cm rfl (Ch.nil (Fin.go (Tr.seq (Tr.reg0 (co rfl (kfa rfl fo26_3 rfl rfl) (co rfl (kl1 rfl one3 rfl) (co rfl (kfa rfl fo26_3 rfl rfl) (co rfl (kl1 rfl one3 rfl) (csu rfl rfl rfl rfl (by omega) ?_)))))))))))))
 refine co rfl (kfa rfl fo26_3 rfl rfl) (co rfl (kl1 rfl one3 rfl) (co rfl (kfa rfl fo26_3 rfl rfl) (co rfl (kl1 rfl one3 rfl) (csu rfl rfl rfl rfl (by omega) (co rfl (ok_max rfl (vl rfl) (vl rfl)) (cm rfl (Ch.nil (Fin.go (wk1 4 rfl (Tr.ret (Fin.ret1 rfl (OutW.bse _ _) rfl ?_)))))))))))
 · exact Pr.le_refl _
set_option maxRecDepth 20000 in
theorem w_Inear {l : List Fnd} {f : Fnd} {gap : Int} (hd : DaysIn l) (hfd : 0 ≤ f.day ∧ f.day ≤ 40000) : Fun Tryz.prog 110 [fnds l, agg (rowF f), int gap] (int (near l f gap)) := by
 refine Fun.of Tryz.func110 rfl rfl (by exact Nat.le_of_ble_eq_true rfl) fun M0 w0 => ?_
 refine Tr.lenm 0 rfl fun hlm_0 => (Tr.seq (Tr.reg0 (co rfl (ok_box rfl (VL.le (vl rfl) (agg_cellsP _))) (cm rfl (Ch.nil (Fin.go (Tr.seq (Tr.reg0 (cm rfl (Ch.nil (Fin.go (Tr.seq (Tr.seq (Tr.reg0 ?_))))))))))))))
 refine cm rfl (co rfl (ok_lenm rfl Tryz.underlying31 (vl rfl)) (cm rfl (Ch.nil (Fin.go (Tr.block (Tr.loopw [(0, _), (2, _), (4, _), (10, _), (11, _)] (kk5 rfl) (fun k : Nat => [(12, int ((k : Nat) : Int)), (7, int (nearK l f gap k))]) (fun k : Nat => k ≤ (l).length) (fun k : Nat => (l).length - k) 0 (Nat.zero_le _) ⟨ke rfl, ke rfl, trivial⟩ ?_))))))
 rintro k hle_k
 refine Tr.seq (Tr.reg0 (co rfl (ki rfl rfl rfl rfl) (Ch.nil (Fin.go (Tr.seq ?_)))))
 refine Tr.cn rfl ?_ ?_ <;> intro h1 q1
 have hk_k : k < (l).length := lt_of_dec h1
 obtain ⟨g, hx_k⟩ := at_ hk_k
 have hgd := days_at hd hx_k
 refine Tr.skip (Fin.go (Tr.seq (Tr.block (Tr.seq (Tr.regT (tm rfl (tp rfl (ok_indexAddr rfl Tryz.underlying31 sz26 (vl rfl) (vl rfl) (by omega) (by exact row_at (by assumption))) ?_)))))))
 refine tp rfl (ok_loadA rfl agg26 sz26 (vl rfl) rfl rfl) ?_
 refine TO.alloc rfl rfl (by decide) rfl z26 zo26 (fun b1 => ?_)
 refine tm rfl (TO.store_all 0 rfl rfl rfl (vl rfl) (VL.le (vl rfl) (agg_cellsP _)) rfl sz26 rfl rfl (TO.freeze 0 9 rfl rfl (TO.nil (Fin.go (wk9 0 2 4 7 8 9 10 11 12 rfl (Tr.seq (Tr.seq (Tr.reg0 (co rfl (kfa rfl fo26_2 rfl rfl) (co rfl (kl1 rfl one3 rfl) (co rfl (ki rfl rfl rfl rfl) (cm rfl ?_))))))))))))
 refine Ch.cs 20 rfl ?_ ?_ <;> intro h2 q2
 iterate 5 refine cnf h2 rfl ?_
 refine co rfl (kpt rfl rfl h2 rfl) (cm rfl ?_)
 iterate 5 refine cnd rfl rfl ?_
 refine co rfl (kpt rfl rfl rfl rfl) (Ch.nil (Fin.go (wk10 0 2 4 7 8 9 10 11 12 33 rfl (Tr.cond rfl (fun _ => ?_) (fun h => nomatch h)))))
 refine Tr.exit (Fin.then_exit (Fin.block_here (Fin.go (Tr.reg0 (cad rfl rfl rfl rfl (by omega) (cm rfl (Ch.nil (Fin.fam_same (k + 1) ⟨hk_k, by omega⟩ ⟨⟨_, rfl, int_succ k⟩, ⟨_, rfl, int_eq (by exact (nearK_skip hx_k (skip_yes (by exact .inl (by assumption)))).symm)⟩, ke rfl, ke rfl, ke rfl, ke rfl, ke rfl, trivial⟩))))))))
 refine cy h2 rfl (kfa rfl fo26_1 rfl rfl) (cy h2 rfl (kl1 rfl one9 rfl) (cy h2 rfl (kfa rfl fo26_1 rfl rfl) (cy h2 rfl (kl1 rfl one9 rfl) (cy h2 rfl (ok_nes rfl (vl rfl) (vl rfl)) (co rfl (kpf rfl rfl h2 rfl) (cm rfl ?_))))))
 refine Ch.cs 27 rfl ?_ ?_ <;> intro h3 q3
 iterate 5 refine cnf h3 rfl ?_
 refine co rfl (kpt rfl rfl h3 rfl) (Ch.nil (Fin.go (wk10 0 2 4 7 8 9 10 11 12 33 rfl (Tr.cond rfl (fun _ => ?_) (fun h => nomatch h)))))
 refine Tr.exit (Fin.then_exit (Fin.block_here (Fin.go (Tr.reg0 (cad rfl rfl rfl rfl (by omega) (cm rfl (Ch.nil (Fin.fam_same (k + 1) ⟨hk_k, by omega⟩ ⟨⟨_, rfl, int_succ k⟩, ⟨_, rfl, int_eq (by exact (nearK_skip hx_k (skip_yes (by exact .inr (.inl (by assumption))))).symm)⟩, ke rfl, ke rfl, ke rfl, ke rfl, ke rfl, trivial⟩))))))))
 refine cy h3 rfl (ok_loadA rfl agg26 sz26 (vl rfl) rfl rfl) (cy h3 rfl (ok_loadA rfl agg26 sz26 (vl rfl) rfl rfl) (cy h3 rfl (ok_call rfl (w_distance (by assumption) (by assumption)) ⟨ke rfl, ke rfl, trivial⟩) (cym h3 rfl (cy h3 rfl (ki rfl rfl rfl rfl) (co rfl (kpf rfl rfl h3 rfl) (Ch.nil (Fin.go (wk10 0 2 4 7 8 9 10 11 12 33 rfl ?_))))))))
 refine Tr.cn rfl ?_ ?_ <;> intro h4 q4
 refine Tr.exit (Fin.then_exit (Fin.block_here (Fin.go (Tr.reg0 (cad rfl rfl rfl rfl (by omega) (cm rfl (Ch.nil (Fin.fam_same (k + 1) ⟨hk_k, by omega⟩ ⟨⟨_, rfl, int_succ k⟩, ⟨_, rfl, int_eq (by exact (nearK_skip hx_k (skip_yes (by exact .inr (.inr (by omega))))).symm)⟩, ke rfl, ke rfl, ke rfl, ke rfl, ke rfl, trivial⟩))))))))
 refine Tr.skip (Fin.go (Tr.seq (Tr.reg1 mixed (by kernel_rfl) (cm rfl (co rfl (ki rfl rfl rfl rfl) (cm rfl ?_))))))
 refine Ch.cs 36 rfl ?_ ?_ <;> intro h5 q5
 iterate 29 refine cnf h5 rfl ?_
 refine co rfl (kpt rfl rfl h5 rfl) (Ch.nil (Fin.go (wk9 0 2 4 7 8 10 11 12 66 rfl (Tr.cond rfl (fun _ => ?_) (fun h => nomatch h)))))
 refine Tr.reg0 (cm rfl (cm rfl (Ch.nil (Fin.block (Fin.go (Tr.reg0 (cad rfl rfl rfl rfl (by omega) (cm rfl (Ch.nil (Fin.fam_same (k + 1) ⟨hk_k, by omega⟩ ⟨⟨_, rfl, int_succ k⟩, ⟨_, rfl, int_eq (by exact (nearK_first hx_k (skip_no (by assumption) (by assumption) (by omega)) (by omega)).symm)⟩, ke rfl, ke rfl, ke rfl, ke rfl, ke rfl, trivial⟩))))))))))
 obtain ⟨hnk, b, hb⟩ := nearK_get (by omega) q5
 have hbd := days_at hd hb
 refine cy h5 rfl (ok_loadA rfl agg26 sz26 (vl rfl) rfl rfl) (cy h5 rfl (ok_loadA rfl agg26 sz26 (vl rfl) rfl rfl) (cy h5 rfl (ok_call rfl (w_distance (by assumption) (by assumption)) ⟨ke rfl, ke rfl, trivial⟩) (cy h5 rfl (ok_loadA rfl agg26 sz26 (vl rfl) rfl rfl) (cym h5 rfl (cym h5 rfl (cy h5 rfl (ok_indexAddr rfl Tryz.underlying31 sz26 (vl rfl) (vl rfl) (by omega) (row_atI hb)) (cy h5 rfl (ok_loadA rfl agg26 sz26 (vl rfl) rfl rfl) (cy h5 rfl (ok_call rfl (w_distance (by assumption) (by assumption)) ⟨ke rfl, ke rfl, trivial⟩) (cy h5 rfl (ok_call rfl (w_cmpI) ⟨ke rfl, ke rfl, trivial⟩) (cy h5 rfl (kfa rfl fo26_3 rfl rfl) (cy h5 rfl (kl1 rfl one3 rfl) (cym h5 rfl (cym h5 rfl ?_)))))))))))))
 refine cy h5 rfl (ok_indexAddr rfl Tryz.underlying31 sz26 (vl rfl) (vl rfl) (by omega) (row_atI hb)) (cy h5 rfl (kfa rfl fo26_3 rfl rfl) (cy h5 rfl (kl1 rfl one3 rfl) (cy h5 rfl (ok_call rfl (w_cmpI) ⟨ke rfl, ke rfl, trivial⟩) (cy h5 rfl (kfa rfl fo26_2 rfl rfl) (cy h5 rfl (kl1 rfl one3 rfl) (cym h5 rfl (cym h5 rfl (cy h5 rfl (ok_indexAddr rfl Tryz.underlying31 sz26 (vl rfl) (vl rfl) (by omega) (row_atI hb)) (cy h5 rfl (kfa rfl fo26_2 rfl rfl) (cy h5 rfl (kl1 rfl one3 rfl) (cy h5 rfl (ok_call rfl (w_cmpI) ⟨ke rfl, ke rfl, trivial⟩) (cy h5 rfl (ok_buildSlice (xs := [.tmp 46, .tmp 54, .tmp 62]) (rows := [[_], [_], [_]]) rfl rfl Tryz.underlying22 sz3 z3 rfl (by decide) ⟨⟨(by exact rfl), (VL.le (vl rfl) (one_cellsP _))⟩, ⟨⟨(by exact rfl), (VL.le (vl rfl) (one_cellsP _))⟩, ⟨⟨(by exact rfl), (VL.le (vl rfl) (one_cellsP _))⟩, trivial⟩⟩⟩ (by decide)) ?_))))))))))))
 refine cy h5 rfl (ok_call rfl (w_orI (l := [cmpI (dist f g) (dist f b), cmpI g.day b.day, cmpI g.machine b.machine])) ⟨⟨_, rfl, full_le _ _⟩, trivial⟩) ?_
 refine cy h5 rfl (ki rfl rfl rfl rfl) (co rfl (kpf rfl rfl h5 rfl) (Ch.nil (Fin.go (wk9 0 2 4 7 8 10 11 12 66 rfl ?_))))
 refine Tr.cn rfl ?_ ?_ <;> intro h6 q6
 refine Tr.reg0 (cm rfl (cm rfl (Ch.nil (Fin.block (Fin.go (Tr.reg0 (cad rfl rfl rfl rfl (by omega) (cm rfl (Ch.nil ?_)))))))))
 exact Fin.fam_same (k + 1) ⟨hk_k, by omega⟩ ⟨⟨_, rfl, int_succ k⟩, ⟨_, rfl, int_eq (by rw [nearK_two hx_k (skip_no (by assumption) (by assumption) (by omega)) (by omega) hb]; have hoo := orL_orF [cmpI (dist f g) (dist f b), cmpI g.day b.day, cmpI g.machine b.machine]; unfold closer; rw [if_pos (decide_eq_true (by omega))])⟩, ke rfl, ke rfl, ke rfl, ke rfl, ke rfl, trivial⟩
 refine Tr.skip (Fin.block (Fin.go (Tr.reg0 (cad rfl rfl rfl rfl (by omega) (cm rfl (Ch.nil ?_))))))
 exact Fin.fam_same (k + 1) ⟨hk_k, by omega⟩ ⟨⟨_, rfl, int_succ k⟩, ⟨_, rfl, int_eq (by rw [nearK_two hx_k (skip_no (by assumption) (by assumption) (by omega)) (by omega) hb]; have hoo := orL_orF [cmpI (dist f g) (dist f b), cmpI g.day b.day, cmpI g.machine b.machine]; unfold closer; rw [if_neg (by rw [decide_eq_true_eq]; omega)])⟩, ke rfl, ke rfl, ke rfl, ke rfl, ke rfl, trivial⟩
 have he_k : k = (l).length := by have := ge_of_dec h1; omega
 subst he_k
 refine Tr.exit (Fin.then_exit (Fin.then_exit (Fin.block_here (Fin.go (Tr.seq (Tr.reg0 (cm rfl (cm rfl (Ch.nil (Fin.go (Tr.ret (Fin.ret1 rfl (OutW.bse _ _) rfl ?_))))))))))))
 · exact Pr.le_refl _
open Classical in
/-- What early answers. -/
noncomputable def earlyR (l : List Fnd) (gap : Int) : Int := if NormP l then (if gap < 0 ∨ 4000 < gap then 2 else 0) else 24

set_option maxRecDepth 20000 in
theorem w_Iearly {l : List Fnd} {gap : Int} (hf : ∀ f ∈ l, f.fits) : Fun Tryz.prog 59 [fnds l, int gap] (int (earlyR l gap)) := by
 refine Fun.of Tryz.func59 rfl rfl (by exact Nat.le_of_ble_eq_true rfl) fun M0 w0 => ?_
 haveI := Classical.propDecidable (NormP l)
 refine Tr.seq (Tr.reg0 (cm rfl (Ch.nil (Fin.go (Tr.seq (Tr.block (Tr.seq (Tr.reg0 (cm rfl (co rfl (ok_call rfl (w_FNormal (by assumption)) ⟨ke rfl, trivial⟩) (co rfl (ok_not rfl (vl rfl)) (cm rfl (Ch.nil (Fin.go ?_))))))))))))))
 refine Tr.cn rfl ?_ ?_ <;> intro h1 q1
 refine Tr.seq (Tr.reg0 (cm rfl (Ch.nil (Fin.go (Tr.ret (Fin.block_ret (Fin.then_ret (Fin.ret1 rfl (OutW.bse _ _) rfl ?_))))))))
 · exact int_eq (by unfold earlyR; rw [if_neg (by assumption)])
 refine Tr.seq (Tr.reg0 (cm rfl (co rfl (ki rfl rfl rfl rfl) (cm rfl ?_))))
 refine Ch.cs 12 rfl ?_ ?_ <;> intro h2 q2
 refine cnf h2 rfl (cnf h2 rfl (co rfl (kpt rfl rfl h2 rfl) (cm rfl (Ch.nil (Fin.go (Tr.cond rfl (fun _ => ?_) (fun h => nomatch h)))))))
 refine Tr.seq (Tr.reg0 (cm rfl (Ch.nil (Fin.go (Tr.ret (Fin.block_ret (Fin.then_ret (Fin.ret1 rfl (OutW.bse _ _) rfl ?_))))))))
 · exact int_eq (by unfold earlyR; rw [if_pos (by assumption), if_pos (by omega)])
 refine cym h2 rfl (cy h2 rfl (ki rfl rfl rfl rfl) (co rfl (kpf rfl rfl h2 rfl) (cm rfl (Ch.nil (Fin.go ?_)))))
 refine Tr.cn rfl ?_ ?_ <;> intro h3 q3
 refine Tr.seq (Tr.reg0 (cm rfl (Ch.nil (Fin.go (Tr.ret (Fin.block_ret (Fin.then_ret (Fin.ret1 rfl (OutW.bse _ _) rfl ?_))))))))
 · exact int_eq (by unfold earlyR; rw [if_pos (by assumption), if_pos (by omega)])
 refine Tr.skip (Fin.block (Fin.go (Tr.seq (Tr.reg0 (cm rfl (Ch.nil (Fin.go (Tr.ret (Fin.ret1 rfl (OutW.bse _ _) rfl ?_)))))))))
 · exact int_eq (by unfold earlyR; rw [if_pos (by assumption), if_neg (by omega)])
end Go.Proofs.YtgdlhajfajddiaaGreat
namespace Go.Proofs.YtgdlhajfajddiaaGreat
open Go Go.RowKit Cp

theorem join_store {p : List Int} {a b : Nat} (ha : a < p.length) (hb : b < p.length) : (arr p).take (0 + (max ((a : Nat) : Int) ((b : Nat) : Int)).toNat * 1) ++ [int (min ((a : Nat) : Int) ((b : Nat) : Int))] ++ (arr p).drop (0 + (max ((a : Nat) : Int) ((b : Nat) : Int)).toNat * 1 + 1) = arr (p.set (max a b) ((min a b : Nat) : Int)) := by
  rw [show (max ((a : Nat) : Int) ((b : Nat) : Int)).toNat = max a b by omega, show min ((a : Nat) : Int) ((b : Nat) : Int) = ((min a b : Nat) : Int) by omega, Nat.zero_add, Nat.mul_one]
  exact arr_set (by omega)

set_option maxRecDepth 20000 in
theorem w_proot {p : List Int} {R : Nat → Nat} {i b0 : Nat} (hu : UF p R) (hi : i < 400) : FunM Tryz.prog 61 [is (.pointer (some ⟨b0, 0, none⟩)), int ((i : Nat) : Int)] (int ((R i : Nat) : Int)) (cellsRes true b0 139 (arr p)) (fun _ => cellsRes true b0 139 (arr p)) := by
 refine FunM.of Tryz.func61 rfl rfl (by exact Nat.le_of_ble_eq_true rfl) fun M0 w0 S rs M1 w1 => ?_
 refine Tr.seq (Tr.reg0 (cm rfl (Ch.nil (Fin.go (Tr.seq (Tr.block (Tr.loopD1V0 [(0, _)] ⟨ke rfl, trivial⟩ (fun (x : Nat) => [(1, int ((x : Nat) : Int))]) (fun (x : Nat) => Hp M0 w0 S (cellsRes true b0 139 (arr p) :: extRes M1 w1 :: rs)) (fun (x : Nat) => x < 400 ∧ R x = R i) (fun (x : Nat) => x) (i)  (⟨hi, rfl⟩) ⟨ke rfl, trivial⟩ (fun _ _ h => h) ?_)))))))
 rintro x  ⟨hx4, hxR⟩
 obtain ⟨y, hy, hyle, hyR, hye⟩ := hu.par x hx4
 refine Tr.seq (Tr.seq (Tr.reg0 (cm rfl (cm rfl (co rfl (okp_nilCheck rfl (vl rfl)) (co rfl (okp_indexArr rfl Tryz.underlying139 sz3 (vl rfl) (vl rfl) (by omega) (by omega)) ?_))))))
 refine co rfl (ok_rd 0 rfl (rd_load1 rfl one3 (vl rfl) (arr_atO (by rw [Int.toNat_natCast]; exact hy)))) ?_
 refine cm rfl (co rfl (ki rfl rfl rfl rfl) (Ch.nil (Fin.go ?_)))
 refine Tr.cn rfl ?_ ?_ <;> intro h1 q1
 have := h1
 refine Tr.skip (Fin.go (Tr.block (Tr.reg0 (cm rfl (cm rfl (co rfl (okp_nilCheck rfl (vl rfl)) (co rfl (okp_indexArr rfl Tryz.underlying139 sz3 (vl rfl) (vl rfl) (by omega) (by omega)) ?_)))))))
 refine co rfl (ok_rd 0 rfl (rd_load1 rfl one3 (vl rfl) (arr_atO (by rw [Int.toNat_natCast]; exact hy)))) ?_
 refine cm rfl (Ch.nil (Fin.block (Fin.famD1V0 (y)  (⟨⟨by omega, by omega⟩, by omega⟩) ⟨ke rfl, ke rfl, trivial⟩ (fun _ _ h => h))))
 have := h1
 refine Tr.exit (Fin.then_exit (Fin.then_exit (Fin.block_here (Fin.go (Tr.seq (Tr.reg0 (cm rfl (cm rfl (Ch.nil (Fin.go (Tr.ret (Fin.retM1 rfl rfl ?_ (fun _ _ _ _ => rfl)))))))))))))
 · exact int_eq (by have := hye.1 (by omega); omega)
set_option maxRecDepth 20000 in
theorem w_pjoin {p : List Int} {R : Nat → Nat} {i k b0 : Nat} (hu : UF p R) (hi : i < 400) (hk : k < 400) : FunM Tryz.prog 109 [is (.pointer (some ⟨b0, 0, none⟩)), int ((i : Nat) : Int), int ((k : Nat) : Int)] (unit_) (cellsRes true b0 139 (arr p)) (fun _ => cellsRes true b0 139 (arr (p.set (max (R i) (R k)) ((min (R i) (R k) : Nat) : Int)))) := by
 refine FunM.of Tryz.func109 rfl rfl (by exact Nat.le_of_ble_eq_true rfl) fun M0 w0 S rs M1 w1 => ?_
 have hri := hu.rep.le i
 have hrk := hu.rep.le k
 have hpl := hu.len
 refine Tr.seq (Tr.regT (tm rfl (tm rfl (TO.efc 0 rfl rfl (by decide) (ef_callc rfl rfl (by decide) rfl (w_proot hu hi) ⟨ke rfl, ke rfl, trivial⟩) (tm rfl (tm rfl (TO.efc 0 rfl rfl (by decide) (ef_callc rfl rfl (by decide) rfl (w_proot hu hk) ⟨ke rfl, ke rfl, trivial⟩) (tm rfl (tm rfl (TO.nil (Fin.go (Tr.regT (tm rfl ?_)))))))))))))
 refine tm rfl (tm rfl (tp rfl (ok_max rfl (vl rfl) (vl rfl)) (tm rfl (tm rfl (tp rfl (ok_min rfl (vl rfl) (vl rfl)) (tp rfl (okp_nilCheck rfl (vl rfl)) (tp rfl (okp_indexArr rfl Tryz.underlying139 sz3 (vl rfl) (vl rfl) (by omega) (by omega)) ?_)))))))
 refine TO.ef0 0 rfl rfl (ef_store rfl rfl (vl rfl) (VL.le (vl rfl) (one_cellsP _)) sz3 rfl (by unfold arr; rw [List.length_map, hpl]; omega) (join_store (by omega) (by omega))) ?_
 refine TO.nil (Fin.retM0 rfl)
end Go.Proofs.YtgdlhajfajddiaaGreat
namespace Go.Proofs.YtgdlhajfajddiaaGreat
open Go Go.RowKit Cp

abbrev encI (n : Int) : Value := .int .i64 n
theorem mapT_int : MapT Tryz.prog 92 3 3 encI where
  und := Tryz.underlying92
  zero := fun w => by kernel_rfl
  eq := fun a b w => by
    rw [show Op.equal 3 _ _ = Op.equalIn (9998 + 2) 3 _ _ from rfl]
    exact eq_intL Tryz.underlying3
  chk := fun e a w => by
    show (Instr.checkKey e (9999 + 1) 3 _).run _ w = _
    exact chk_int Tryz.underlying3 w
  und2 := ⟨_, Tryz.underlying3, .inr fun a b => by simp only [encI, Instr.sameNow, if_true]; congr 1⟩
  bits := fun a => by
    show Instr.sameBits (9999 + 1) (.int _ _) (.int _ _) = true
    simp [Instr.sameBits]


/-- What the map of machines holds after the first k findings. -/
def macM (l : List Fnd) : Nat → List (Int × Int)
  | 0 => []
  | k + 1 => match l[k]? with
    | none => macM l k
    | some f => if f.machine = 0 then macM l k else updM (macM l k) f.machine (k : Nat)
theorem macM_no {l : List Fnd} {k : Nat} {f : Fnd} (hf : l[k]? = some f) (h : f.machine = 0) : macM l (k + 1) = macM l k := by simp only [macM, hf, h, if_true]
theorem macM_yes {l : List Fnd} {k : Nat} {f : Fnd} (hf : l[k]? = some f) (h : ¬ f.machine = 0) : macM l (k + 1) = updM (macM l k) f.machine (k : Nat) := by simp only [macM, hf, h, if_false]


theorem upd_cons {κ : Type} [DecidableEq κ] (p : κ × Int) (es : List (κ × Int)) (k : κ) (v : Int) : updM (p :: es) k v = if k = p.1 then (k, v) :: es else p :: updM es k v := by
  unfold updM
  rw [List.findIdx?_cons]
  by_cases h : k = p.1
  · simp [h]
  · simp only [h, decide_false, Bool.false_eq_true, if_false]
    cases hf : es.findIdx? fun p => decide (k = p.1) with
    | none => simp
    | some i => simp
theorem look_upd {κ : Type} [DecidableEq κ] (k k' : κ) (v : Int) : ∀ es : List (κ × Int), Cp.look (updM es k v) k' = if k' = k then some v else Cp.look es k'
  | [] => by
    unfold updM Cp.look
    by_cases h : k' = k <;> simp [h]
  | p :: es => by
    have ih := look_upd k k' v es
    rw [upd_cons]
    unfold Cp.look at ih ⊢
    by_cases h : k = p.1
    · rw [if_pos h]
      by_cases h2 : k' = k
      · simp [h2]
      · have h3 : ¬ k' = p.1 := by rw [← h]; exact h2
        simp [h2, h3]
    · rw [if_neg h]
      by_cases h2 : k' = p.1
      · have h3 : ¬ k' = k := by rintro rfl; exact h h2
        simp [h2, h3]
        intro h4; exact absurd h4.symm h
      · rw [List.find?_cons_of_neg (by simpa using h2), ih, List.find?_cons_of_neg (by simpa using h2)]
theorem mac_look {l : List Fnd} {m : Int} (hm : ¬ m = 0) : ∀ k, Cp.look (macM l k) m = if lastM l m k < 0 then none else some (lastM l m k)
  | 0 => rfl
  | k + 1 => by
    have ih := mac_look (l := l) hm k
    have hin := lastM_in l m k
    cases hf : l[k]? with
    | none => simp only [macM, lastM, hf]; simpa using ih
    | some f =>
      by_cases h0 : f.machine = 0
      · rw [macM_no hf h0, ih]
        have : ¬ f.machine = m := by omega
        simp only [lastM, hf, Option.map_some, Option.some.injEq, this, if_false]
      · rw [macM_yes hf h0, look_upd, ih]
        by_cases h1 : m = f.machine
        · simp only [lastM, hf, Option.map_some, Option.some.injEq, h1.symm, if_true]
          rw [if_neg (by omega)]
        · have : ¬ f.machine = m := fun h => h1 h.symm
          simp only [lastM, hf, Option.map_some, Option.some.injEq, this, if_false]
          rw [if_neg h1]


/-- The parents after the first k findings. -/
def parK (l : List Fnd) (gap : Int) : Nat → List Int
  | 0 => idsTo 400
  | k + 1 => if edgeOf l gap k < 0 then parK l gap k else (parK l gap k).set (max (RR l gap k k) (RR l gap k (edgeOf l gap k).toNat)) ((min (RR l gap k k) (RR l gap k (edgeOf l gap k).toNat) : Nat) : Int)
theorem parK_same {l : List Fnd} {gap : Int} {k : Nat} (h : edgeOf l gap k < 0) : parK l gap (k + 1) = parK l gap k := by show (if _ then _ else _) = _; rw [if_pos h]
theorem parK_join {l : List Fnd} {gap : Int} {k : Nat} (h : ¬ edgeOf l gap k < 0) : parK l gap (k + 1) = (parK l gap k).set (max (RR l gap k k) (RR l gap k (edgeOf l gap k).toNat)) ((min (RR l gap k k) (RR l gap k (edgeOf l gap k).toNat) : Nat) : Int) := by show (if _ then _ else _) = _; rw [if_neg h]


theorem edge_lt {l : List Fnd} {gap : Int} (hn : l.length ≤ 400) {k : Nat} (hk : k < l.length) (h : ¬ edgeOf l gap k < 0) : (edgeOf l gap k).toNat < 400 := by
  obtain ⟨f, hf⟩ := at_ hk
  by_cases h0 : f.machine = 0
  · by_cases hnr : near l f gap < 0
    · rw [edge_loose hf h0 hnr] at h ⊢
      split at h
      · rename_i hc
        rw [if_pos hc]
        rcases prevK_in l gap k with h1 | ⟨_, h2, _⟩ <;> omega
      · omega
    · rw [edge_near hf h0 hnr]
      have := (near_get (f := f) (gap := gap) (l := l) (by omega)).1
      omega
  · rw [edge_own hf h0]
    rcases lastM_in l f.machine k with h1 | ⟨_, h2, _⟩ <;> omega
theorem parK_uf {l : List Fnd} {gap : Int} (hn : l.length ≤ 400) : ∀ k, k ≤ l.length → UF (parK l gap k) (RR l gap k)
  | 0, _ => UF.start
  | k + 1, hk => by
    have ih := parK_uf (gap := gap) hn k (by omega)
    by_cases h : edgeOf l gap k < 0
    · rw [parK_same h]; show UF _ (if _ then _ else _); rw [if_pos h]; exact ih
    · rw [parK_join h]; show UF _ (if _ then _ else _); rw [if_neg h]; exact ih.join (by omega) (edge_lt hn (by omega) h)

end Go.Proofs.YtgdlhajfajddiaaGreat
namespace Go.Proofs.YtgdlhajfajddiaaGreat
open Go Go.RowKit Cp

/-- New parents: an array that joins as the findings say. -/
def newPar (l : List Fnd) (gap : Int) (v : Value) : Res := match v with | .pointer (some a) => cellsRes true a.block 139 (arr (parK l gap l.length)) | _ => noRes
theorem idsTo_store {k : Nat} (hk : k < 400) : (arr (idsTo k)).take (0 + ((k : Nat) : Int).toNat * 1) ++ [int ((k : Nat) : Int)] ++ (arr (idsTo k)).drop (0 + ((k : Nat) : Int).toNat * 1 + 1) = arr (idsTo (k + 1)) := by
  rw [Int.toNat_natCast, Nat.zero_add, Nat.mul_one, arr_set (by rw [idsTo_len (by omega)]; exact hk), idsTo_set hk]
theorem idsTo_zero {ks : List Value} (h : ks = List.replicate 400 (.int .i64 0)) : ks.map is = arr (idsTo 0) := by
  subst h; unfold idsTo arr; rw [List.map_append, List.map_replicate, List.map_replicate]; rfl

set_option maxRecDepth 20000 in
theorem w_joined {l : List Fnd} {gap : Int} (hd : DaysIn l) (hn : l.length ≤ 400) : FunM Tryz.prog 60 [fnds l, int gap] (ex fun b => ptr b 0) (noRes) (newPar l gap) := by
 refine FunM.of Tryz.func60 rfl rfl (by exact Nat.le_of_ble_eq_true rfl) fun M0 w0 S rs M1 w1 => ?_
 refine Tr.lenm 0 rfl fun hlm_0 => (Tr.seq (Tr.reg0 (cm rfl (Ch.nil (Fin.go (Tr.seq (Tr.regT (tp rfl (ok_build (rows := []) rfl bl139 zo139 trivial rfl) ?_))))))))
 refine TO.boxm rfl rfl (by decide) rfl (VL.le (vl rfl) (agg_cellsP _)) (fun b1 => ?_)
 refine tm rfl (TO.nil (Fin.go (Tr.seq (Tr.seq (Tr.reg0 (cm rfl (Ch.nil (Fin.go (Tr.block ?_)))))))))
 refine Tr.loopR [(0, _), (1, _), (5, _)] ⟨ke rfl, ke rfl, ke rfl, trivial⟩ (fun k : Nat => [(16, int ((k : Nat) : Int))]) (fun k : Nat => Hp M0 w0 S ((cellsRes true b1 139 (arr (idsTo k)) :: noRes :: extRes M1 w1 :: rs))) (fun k : Nat => k ≤ (400)) (fun k : Nat => (400) - k) 0 (Nat.zero_le _) ⟨ke rfl, trivial⟩ ((by rw [← idsTo_zero rfl]; exact fun _ _ h => h)) ?_
 rintro k hle_k
 refine Tr.seq (Tr.reg0 (co rfl (ki rfl rfl rfl rfl) (Ch.nil (Fin.go (Tr.seq ?_)))))
 refine Tr.cn rfl ?_ ?_ <;> intro h1 q1
 have hk_k : k < (400) := lt_of_dec h1
 refine Tr.skip (Fin.go (Tr.seq (Tr.block (Tr.seq (Tr.reg0 (cm rfl (cm rfl (Ch.nil (Fin.go (Tr.regT (tm rfl (tm rfl (tm rfl ?_)))))))))))))
 refine tp rfl (okp_nilCheck rfl (vl rfl)) (tp rfl (okp_indexArr rfl Tryz.underlying139 sz3 (vl rfl) (vl rfl) (by omega) (by omega)) ?_)
 refine TO.ef0 0 rfl rfl (ef_store rfl rfl (vl rfl) (VL.le (vl rfl) (one_cellsP _)) sz3 rfl (by unfold arr; rw [List.length_map, idsTo_len (by omega)]; omega) (idsTo_store hk_k)) ?_
 refine TO.nil (Fin.block (Fin.go (Tr.reg0 (cad rfl rfl rfl rfl (by omega) (cm rfl (Ch.nil (Fin.fam (k + 1) ⟨hk_k, by omega⟩ ⟨⟨_, rfl, int_succ k⟩, ke rfl, ke rfl, ke rfl, trivial⟩ ((by exact fun _ _ h => h)))))))))
 have he_k : k = (400) := by have := ge_of_dec h1; omega
 subst he_k
 refine Tr.exit (Fin.then_exit (Fin.then_exit (Fin.block_here (Fin.go (Tr.seq (Tr.regT ?_))))))
 refine TO.mkmap encI rfl rfl (by decide) rfl (fun b2 => ?_)
 refine tm rfl (TO.nil (Fin.go (Tr.seq (Tr.reg0 (cm rfl (Ch.nil (Fin.go (Tr.seq (Tr.seq (Tr.reg0 (cm rfl (co rfl (ok_lenm rfl Tryz.underlying31 (vl rfl)) (cm rfl ?_)))))))))))))
 refine Ch.nil (Fin.go (Tr.block (Tr.loopR [(0, _), (1, _), (5, _), (7, _), (26, _), (27, _)] ⟨ke rfl, ke rfl, ke rfl, ke rfl, ke rfl, ke rfl, trivial⟩ (fun k : Nat => [(28, int ((k : Nat) : Int)), (8, int (prevK l gap k))]) (fun k : Nat => Hp M0 w0 S ((mapR encI b2 (macM l k) :: cellsRes true b1 139 (arr (parK l gap k)) :: noRes :: extRes M1 w1 :: rs))) (fun k : Nat => k ≤ (l).length) (fun k : Nat => (l).length - k) 0 (Nat.zero_le _) ⟨ke rfl, ke rfl, trivial⟩ (fun _ _ h => h) ?_)))
 rintro k hle_k
 refine Tr.seq (Tr.reg0 (co rfl (ki rfl rfl rfl rfl) (Ch.nil (Fin.go (Tr.seq ?_)))))
 refine Tr.cn rfl ?_ ?_ <;> intro h2 q2
 have hk_k : k < (l).length := lt_of_dec h2
 obtain ⟨f, hx_k⟩ := at_ hk_k
 have hu := parK_uf (gap := gap) hn k (by omega)
 have hfd := days_at hd hx_k
 refine Tr.skip (Fin.go (Tr.seq (Tr.block (Tr.seq (Tr.regT (tm rfl (tp rfl (ok_indexAddr rfl Tryz.underlying31 sz26 (vl rfl) (vl rfl) (by omega) (by exact row_at (by assumption))) ?_)))))))
 refine tp rfl (ok_loadA rfl agg26 sz26 (vl rfl) rfl rfl) ?_
 refine TO.alloc rfl rfl (by decide) rfl z26 zo26 (fun b3 => ?_)
 refine tm rfl (TO.store_all 0 rfl rfl rfl (vl rfl) (VL.le (vl rfl) (agg_cellsP _)) rfl sz26 rfl rfl (TO.freeze 0 10 rfl rfl (TO.nil (Fin.go (wk10 0 1 5 7 8 9 10 26 27 28 rfl (Tr.seq (Tr.seq (Tr.reg0 (co rfl (kfa rfl fo26_2 rfl rfl) (co rfl (kl1 rfl one3 rfl) (co rfl (ki rfl rfl rfl rfl) (Ch.nil (Fin.go ?_)))))))))))))
 refine Tr.cn rfl ?_ ?_ <;> intro h3 q3
 have he := edge_own (gap := gap) hx_k q3
 have hmo := mOf_own (gap := gap) hx_k q3
 have hm1 := macM_yes hx_k q3
 have hv1 : prevK l gap (k + 1) = prevK l gap k := if_neg (by rw [hmo]; exact q3)
 have hL := mac_look (l := l) q3 k
 have hlin := lastM_in l f.machine k
 refine Tr.seq (Tr.seq (Tr.regT (tm rfl (tp rfl (kfa rfl fo26_2 rfl rfl) (tp rfl (kl1 rfl one3 rfl) (TO.rd 0 rfl rfl rfl (by decide) (rd_lookup (f.machine) mapT_int rfl (vl rfl) (vl rfl) (fun _ _ _ h => h)) (tm rfl (tp rfl (ok_extract rfl (vl rfl) rfl) (tp rfl (ok_extract rfl (vl rfl) rfl) (tm rfl (tm rfl (TO.nil (Fin.go ?_)))))))))))))
 refine wk12 0 1 5 7 8 9 10 11 12 26 27 28 rfl (Tr.seq (Tr.reg0 (cm rfl (Ch.nil (Fin.go ?_)))))
 refine Tr.cn rfl ?_ ?_ <;> intro h4 q4
 have hlm : ¬ lastM l f.machine k < 0 := by intro hlt; rw [hL, if_pos hlt] at q4; cases q4
 rw [if_neg hlm] at hL
 have hp1 := parK_join (l := l) (gap := gap) (k := k) (by rw [he]; exact hlm)
 rw [he] at hp1
 refine Tr.regT (tm rfl (tm rfl (tm rfl ?_)))
 refine TO.efc 1 rfl rfl (by decide) (ef_callc rfl rfl (by decide) rfl (w_pjoin (i := k) (k := (lastM l f.machine k).toNat) hu (by omega) (by omega)) ⟨ke rfl, ke rfl, ⟨_, rfl, int_eq (by rw [hL]; show (lastM l f.machine k : Int) = _; omega)⟩, trivial⟩) ?_
 refine TO.nil (Fin.go (wk10 0 1 5 7 8 9 10 26 27 28 rfl (Tr.seq (Tr.regT (tm rfl (tp rfl (kfa rfl fo26_2 rfl rfl) (tp rfl (kl1 rfl one3 rfl) (tm rfl (TO.ef0 0 rfl rfl (ef_mapupd (f.machine) mapT_int rfl rfl rfl (vl rfl) (vl rfl) (fun _ _ _ h => h) (vl rfl)) (TO.nil (Fin.go (wk8 0 1 5 7 8 26 27 28 rfl (Tr.exit (Fin.then_exit ?_))))))))))))))
 refine Fin.block_here (Fin.go (Tr.reg0 (cad rfl rfl rfl rfl (by omega) (cm rfl (Ch.nil ?_)))))
 exact Fin.fam (k + 1) ⟨hk_k, by omega⟩ ⟨⟨_, rfl, int_succ k⟩, ⟨_, rfl, int_eq hv1.symm⟩, ke rfl, ke rfl, ke rfl, ke rfl, ke rfl, ke rfl, trivial⟩ ((by rw [hm1, hp1]; exact fun _ _ h => h))
 have hlm : lastM l f.machine k < 0 := by rcases Int.lt_or_le (lastM l f.machine k) 0 with h1 | h1; exact h1; (rw [hL, if_neg (by omega)] at q4; cases q4)
 have hp1 := parK_same (l := l) (gap := gap) (k := k) (by rw [he]; exact hlm)
 refine Tr.skip (Fin.go (Tr.seq (Tr.regT (tm rfl (tp rfl (kfa rfl fo26_2 rfl rfl) (tp rfl (kl1 rfl one3 rfl) (tm rfl (TO.ef0 0 rfl rfl (ef_mapupd (f.machine) mapT_int rfl rfl rfl (vl rfl) (vl rfl) (fun _ _ _ h => h) (vl rfl)) (TO.nil (Fin.go (wk8 0 1 5 7 8 26 27 28 rfl (Tr.exit (Fin.then_exit (Fin.block_here ?_))))))))))))))
 refine Fin.go (Tr.reg0 (cad rfl rfl rfl rfl (by omega) (cm rfl (Ch.nil ?_))))
 exact Fin.fam (k + 1) ⟨hk_k, by omega⟩ ⟨⟨_, rfl, int_succ k⟩, ⟨_, rfl, int_eq hv1.symm⟩, ke rfl, ke rfl, ke rfl, ke rfl, ke rfl, ke rfl, trivial⟩ ((by rw [hm1, hp1]; exact fun _ _ h => h))
 have hm1 := macM_no hx_k q3
 have hmz : f.machine = 0 := q3
 refine Tr.skip (Fin.go (Tr.seq (Tr.seq (Tr.reg0 (cm rfl (co rfl (ok_loadA rfl agg26 sz26 (vl rfl) rfl rfl) (cm rfl (co rfl (ok_call rfl (w_Inear (by assumption) (by assumption)) ⟨ke rfl, ke rfl, ke rfl, trivial⟩) (cm rfl (Ch.nil (Fin.go (wk11 0 1 5 7 8 9 10 13 26 27 28 rfl (Tr.seq (Tr.reg0 ?_))))))))))))))
 refine cm rfl (co rfl (ki rfl rfl rfl rfl) (Ch.nil (Fin.go ?_)))
 refine Tr.cn rfl ?_ ?_ <;> intro h5 q5
 have he := edge_near (gap := gap) hx_k hmz (by omega)
 have hp1 := parK_join (l := l) (gap := gap) (k := k) (by rw [he]; omega)
 rw [he] at hp1
 obtain ⟨hgl, g, hg, hg0, _⟩ := near_get (l := l) (f := f) (gap := gap) (by omega)
 have hv1 : prevK l gap (k + 1) = prevK l gap k := if_neg (by rw [mOf_near hx_k hmz (by omega) hg]; exact hg0)
 refine Tr.seq (Tr.regT (tm rfl (tm rfl (tm rfl ?_))))
 refine TO.efc 1 rfl rfl (by decide) (ef_callc rfl rfl (by decide) rfl (w_pjoin (i := k) (k := (near l f gap).toNat) hu (by omega) (by omega)) ⟨ke rfl, ke rfl, ⟨_, rfl, int_eq (by omega)⟩, trivial⟩) ?_
 refine TO.nil (Fin.go (wk8 0 1 5 7 8 26 27 28 rfl (Tr.exit (Fin.then_exit (Fin.block_here (Fin.go (Tr.reg0 (cad rfl rfl rfl rfl (by omega) (cm rfl (Ch.nil ?_))))))))))
 exact Fin.fam (k + 1) ⟨hk_k, by omega⟩ ⟨⟨_, rfl, int_succ k⟩, ⟨_, rfl, int_eq hv1.symm⟩, ke rfl, ke rfl, ke rfl, ke rfl, ke rfl, ke rfl, trivial⟩ ((by rw [hm1, hp1]; exact fun _ _ h => h))
 have he := edge_loose (gap := gap) hx_k hmz (by omega)
 have hv1 : prevK l gap (k + 1) = (k : Nat) := if_pos (mOf_loose hx_k hmz (by omega))
 have hpin := prevK_in l gap k
 refine Tr.skip (Fin.go (Tr.seq (Tr.seq (Tr.reg1 mixed (by kernel_rfl) (cm rfl (co rfl (ki rfl rfl rfl rfl) (cm rfl ?_)))))))
 refine Ch.cs 64 rfl ?_ ?_ <;> intro h6 q6
 obtain ⟨fb, hfb⟩ := at_ (l := l) (k := (prevK l gap k).toNat) (by omega)
 have hfbd := days_at hd hfb
 have hnx : nextTo l gap (prevK l gap k).toNat k = decide (fb.host = f.host ∧ dist f fb ≤ gap) := by unfold nextTo; rw [hfb, hx_k]
 refine cym h6 rfl (cym h6 rfl (cy h6 rfl (ok_indexAddr rfl Tryz.underlying31 sz26 (vl rfl) (vl rfl) (by omega) (row_atI hfb)) (cy h6 rfl (kfa rfl fo26_1 rfl rfl) (cy h6 rfl (kl1 rfl one9 rfl) (cy h6 rfl (kfa rfl fo26_1 rfl rfl) (cy h6 rfl (kl1 rfl one9 rfl) (cy h6 rfl (ok_eqs rfl (vl rfl) (vl rfl)) (co rfl (kpt rfl rfl h6 rfl) (cm rfl ?_)))))))))
 refine Ch.cs 74 rfl ?_ ?_ <;> intro h7 q7
 refine cy h7 rfl (ok_loadA rfl agg26 sz26 (vl rfl) rfl rfl) (cym h7 rfl (cym h7 rfl (cy h7 rfl (ok_indexAddr rfl Tryz.underlying31 sz26 (vl rfl) (vl rfl) (by omega) (row_atI hfb)) (cy h7 rfl (ok_loadA rfl agg26 sz26 (vl rfl) rfl rfl) (cy h7 rfl (ok_call rfl (w_distance (by assumption) (by assumption)) ⟨ke rfl, ke rfl, trivial⟩) (cym h7 rfl (cy h7 rfl (ki rfl rfl rfl rfl) (co rfl (kpt rfl rfl h7 rfl) (Ch.nil (Fin.go (wk10 0 1 5 7 8 9 26 27 28 83 rfl ?_)))))))))))
 refine Tr.cn rfl ?_ ?_ <;> intro h8 q8
 rw [if_pos ⟨by omega, by rw [hnx, decide_eq_true_eq]; exact ⟨by assumption, by omega⟩⟩] at he
 have hp1 := parK_join (l := l) (gap := gap) (k := k) (by rw [he]; omega)
 rw [he] at hp1
 refine Tr.regT (tm rfl (tm rfl (tm rfl ?_)))
 refine TO.efc 1 rfl rfl (by decide) (ef_callc rfl rfl (by decide) rfl (w_pjoin (i := k) (k := (prevK l gap k).toNat) hu (by omega) (by omega)) ⟨ke rfl, ke rfl, ⟨_, rfl, int_eq (by omega)⟩, trivial⟩) ?_
 refine TO.nil (Fin.go (wk8 0 1 5 7 9 26 27 28 rfl (Tr.reg0 (cm rfl (cm rfl (Ch.nil (Fin.block (Fin.go (Tr.reg0 (cad rfl rfl rfl rfl (by omega) (cm rfl (Ch.nil ?_))))))))))))
 exact Fin.fam (k + 1) ⟨hk_k, by omega⟩ ⟨⟨_, rfl, int_succ k⟩, ⟨_, rfl, int_eq hv1.symm⟩, ke rfl, ke rfl, ke rfl, ke rfl, ke rfl, ke rfl, trivial⟩ ((by rw [hm1, hp1]; exact fun _ _ h => h))
 rw [if_neg (by rintro ⟨h1, h2⟩; rw [hnx, decide_eq_true_eq] at h2; omega)] at he
 have hp1 := parK_same (l := l) (gap := gap) (k := k) (by rw [he]; omega)
 refine Tr.skip (Fin.go (Tr.reg0 (cm rfl (cm rfl (Ch.nil (Fin.block (Fin.go (Tr.reg0 (cad rfl rfl rfl rfl (by omega) (cm rfl (Ch.nil ?_)))))))))))
 exact Fin.fam (k + 1) ⟨hk_k, by omega⟩ ⟨⟨_, rfl, int_succ k⟩, ⟨_, rfl, int_eq hv1.symm⟩, ke rfl, ke rfl, ke rfl, ke rfl, ke rfl, ke rfl, trivial⟩ ((by rw [hm1, hp1]; exact fun _ _ h => h))
 rw [if_neg (by rintro ⟨h1, h2⟩; rw [hnx, decide_eq_true_eq] at h2; exact absurd h2.1 (by assumption))] at he
 have hp1 := parK_same (l := l) (gap := gap) (k := k) (by rw [he]; omega)
 iterate 8 refine cnt h7 rfl ?_
 refine co rfl (kpf rfl rfl h7 rfl) (Ch.nil (Fin.go (wk10 0 1 5 7 8 9 26 27 28 83 rfl (Tr.cond rfl (fun h => nomatch h) (fun _ => ?_)))))
 refine Tr.skip (Fin.go (Tr.reg0 (cm rfl (cm rfl (Ch.nil (Fin.block (Fin.go (Tr.reg0 (cad rfl rfl rfl rfl (by omega) (cm rfl (Ch.nil ?_)))))))))))
 exact Fin.fam (k + 1) ⟨hk_k, by omega⟩ ⟨⟨_, rfl, int_succ k⟩, ⟨_, rfl, int_eq hv1.symm⟩, ke rfl, ke rfl, ke rfl, ke rfl, ke rfl, ke rfl, trivial⟩ ((by rw [hm1, hp1]; exact fun _ _ h => h))
 rw [if_neg (by rintro ⟨h1, h2⟩; omega)] at he
 have hp1 := parK_same (l := l) (gap := gap) (k := k) (by rw [he]; omega)
 iterate 8 refine cnt h6 rfl ?_
 refine co rfl (kpf rfl rfl h6 rfl) (cm rfl ?_)
 iterate 8 refine cnd rfl rfl ?_
 refine co rfl (kpf rfl rfl rfl rfl) (Ch.nil (Fin.go (wk10 0 1 5 7 8 9 26 27 28 83 rfl (Tr.cond rfl (fun h => nomatch h) (fun _ => ?_)))))
 refine Tr.skip (Fin.go (Tr.reg0 (cm rfl (cm rfl (Ch.nil (Fin.block (Fin.go (Tr.reg0 (cad rfl rfl rfl rfl (by omega) (cm rfl (Ch.nil ?_)))))))))))
 exact Fin.fam (k + 1) ⟨hk_k, by omega⟩ ⟨⟨_, rfl, int_succ k⟩, ⟨_, rfl, int_eq hv1.symm⟩, ke rfl, ke rfl, ke rfl, ke rfl, ke rfl, ke rfl, trivial⟩ ((by rw [hm1, hp1]; exact fun _ _ h => h))
 have he_k : k = (l).length := by have := ge_of_dec h2; omega
 subst he_k
 refine Tr.exit (Fin.then_exit (Fin.then_exit (Fin.block_here (Fin.go (Tr.seq (Tr.reg0 (cm rfl (cm rfl (Ch.nil (Fin.go (Tr.ret (Fin.drop 2 ?_))))))))))))
 refine Fin.retY1 [_] rfl (RVal.tmp rfl (Pr.le_refl _)) ?_ (by rintro _ _ _ rfl; rfl)
 · exact ex_in b1 (Pr.le_refl _)
end Go.Proofs.YtgdlhajfajddiaaGreat
namespace Cp
open Go Go.RowKit Go.Great
section
variable {P : Program} {n : Nat} {E : Env} {M0 : Av} {w0 : World} {S : Nat → Prop} {rs : List Res} {o : Oper}
theorem okb_cap {I : Asn} {t e : TypeId} {x : Operand} {A : Option Addr} {m cap : Nat} (ho : o.op = .call { callee := .builtin .cap, args := #[x], argTypes := #[t] }) (ht : P.underlying t = some (.slice e)) (hx : VL E x (is (.slice A m cap))) : OpOK P I o E (int cap) :=
  OpOK.same fun M w a he _ => by
    have h1 : a.eval x = _ := hx.ev he (by simp [ho, Op.operands, Call.operands])
    exact ⟨.int .i64 cap, by simp [execOp, ho, resolve, invoke, builtin, Builtin.cap_, h1, run_underlying ht, goInt], rfl⟩
theorem okb_sliceCap {I : Asn} {t e : TypeId} {x y : Operand} {k : IntKind} {h : Int} {sz b m cap : Nat} (ho : o.op = .slice t x none (some y) none) (ht : P.underlying t = some (.slice e)) (hz : sizeB P e = some sz) (hx : VL E x (is (.slice (some ⟨b, 0, none⟩) m cap))) (hy : VL E y (is (.int k h))) (h0 : 0 ≤ h) (hl : h ≤ cap) (h1m : 0 < cap) :
    OpOK P I o E (is (.slice (some ⟨b, 0, none⟩) h.toNat cap)) :=
  OpOK.same fun M w a he _ => by
    have h1 : a.eval x = _ := hx.ev he (by simp [ho, Op.operands])
    have h3 : a.eval y = _ := hy.ev he (by simp [ho, Op.operands])
    refine ⟨_, ?_, rfl⟩
    simp [execOp, ho, h1, h3, Instr.sliceAt, Instr.slice, run_underlying ht, Instr.sliceBounds, Instr.sliceBound, asIntOf, h0, hl, run_size hz]
    intro _; rfl
theorem okb_sliceAny {I : Asn} {t e : TypeId} {x y : Operand} {k : IntKind} {l : Int} {sz b m cap : Nat} (ho : o.op = .slice t x (some y) none none) (ht : P.underlying t = some (.slice e)) (hz : sizeB P e = some sz) (hx : VL E x (is (.slice (some ⟨b, 0, none⟩) m cap))) (hy : VL E y (is (.int k l))) (h0 : 0 ≤ l) (hl : l ≤ m) (hc : m ≤ cap) :
    OpOK P I o E (lens (m - l.toNat)) :=
  OpOK.same fun M w a he _ => by
    have h1 : a.eval x = _ := hx.ev he (by simp [ho, Op.operands])
    have h3 : a.eval y = _ := hy.ev he (by simp [ho, Op.operands])
    have hb : l ≤ (m : Int) := by omega
    refine ⟨.slice (if cap = l.toNat then some ⟨b, 0, none⟩ else some ⟨b, l.toNat * sz, none⟩) (m - l.toNat) (cap - l.toNat), ?_, _, _, rfl⟩
    by_cases hne : cap = l.toNat <;>
    simp [execOp, ho, h1, h3, Instr.sliceAt, Instr.slice, run_underlying ht, Instr.sliceBounds, Instr.sliceBound, asIntOf, h0, hb, run_size hz, hne, addr_add]
theorem Tr.closeG {Q : Exit → Act → World → Prop} {c : Code} {e : TypeId} {sz b cap m : Nat} {rows : List (List Pr)} {sp : List Value} {ps : List Pr} (j : Nat) (hj : rs[j]? = some (cellsRes true b e ps)) (hps : ps = rows.flatten ++ sp.map is) (hm : rows.length = m) (h1 : m ≤ cap) (h2 : cap ≤ maxLen) (h3 : sp.length = (cap - m) * sz)
    (k : Tr P n E (Hp M0 w0 S (rs.set j (ownRes e sz rows (.slice (some ⟨b, 0, none⟩) m cap)))) c Q) : Tr P n E (Hp M0 w0 S rs) c Q := Tr.conv (fun _ _ hs => hs.closeG j (by rw [hj, hps]) hm h1 h2 h3) k
theorem Fin.closeH {Q : Exit → Act → World → Prop} {x : Exit} {e : TypeId} {sz b cap m : Nat} {rows : List (List Pr)} {sp : List Value} {ps : List Pr} (j : Nat) (hj : rs[j]? = some (cellsRes true b e ps)) (hps : ps = rows.flatten ++ sp.map is) (hm : rows.length = m) (h1 : m ≤ cap) (h2 : cap ≤ maxLen) (h3 : sp.length = (cap - m) * sz)
    (k : Fin n E (Hp M0 w0 S (rs.set j (ownRes e sz rows (.slice (some ⟨b, 0, none⟩) m cap)))) Q x) : Fin n E (Hp M0 w0 S rs) Q x := Fin.conv (fun _ _ hs => hs.closeG j (by rw [hj, hps]) hm h1 h2 h3) k
/-- A slice of ours is nil, or it lies in a block. -/
theorem FunM.own_cases {f : FuncId} {e : TypeId} {sz : Nat} {rows : List (List Pr)} {v : Value} {p : Pr} {ps : List Pr} {res : Pr} {R' : Value → Res} (hE : Entry P f) (h0 : rows = [] → v = .slice none 0 0 → FunM P f (is (.slice none 0 0) :: ps) res noRes R')
    (h1 : ∀ (b cap : Nat) (sp : List Value), v = .slice (some ⟨b, 0, none⟩) rows.length cap → rows.length ≤ cap → cap ≤ maxLen → sp.length = (cap - rows.length) * sz → FunM P f (andIs (.slice (some ⟨b, 0, none⟩) rows.length cap) (lens rows.length) :: ps) res (cellsRes true b e (rows.flatten ++ sp.map is)) R') :
    FunM P f (andIs v p :: ps) res (ownRes e sz rows v) R' := by
  refine ⟨hE, fun M0 w0 S rs M w vs hI hv => ?_⟩
  match vs, hv with
  | u0 :: vs1, hv1 =>
    obtain ⟨hu0, hv2⟩ := hv1
    obtain rfl : u0 = v := hu0.1
    have hb0 := hI.hold _ (List.mem_cons_self ..)
    rcases hb0.1 with ⟨hnil, rfl⟩ | hmut
    · have hI' := hI.swap1 (i := 0) (r' := noRes) rfl rfl rfl trivial
      exact (h0 hnil rfl).2 M0 w0 S rs M w _ hI' (show HL M w (_ :: _) (_ :: vs1) from ⟨rfl, hv2⟩)
    · obtain ⟨b, cap, spare, rfl, hnc, hcm, hsp, hcr⟩ := hmut
      have hC := hI.swap1 (i := 0) (r' := cellsRes true b e (rows.flatten ++ spare.map is)) rfl rfl rfl hcr
      exact (h1 b cap spare rfl hnc hcm hsp).2 M0 w0 S rs M w _ hC (show HL M w (_ :: _) (_ :: vs1) from ⟨⟨rfl, _, _, rfl⟩, hv2⟩)
theorem FunM.own_of_mut {f : FuncId} {e : TypeId} {sz : Nat} {rows : List (List Pr)} {ps : List Pr} {res : Pr} {R : Res} (h : FunM P f ps res R (fun v => mutRes e sz rows v)) : FunM P f ps res R (fun v => ownRes e sz rows v) := by
  refine ⟨h.1, fun M0 w0 S rs M w vs hI hv => (h.2 M0 w0 S rs M w vs hI hv).mono ?_⟩
  rintro e' w' ⟨v, M', rfl, h2, h3, h4⟩
  exact ⟨v, M', rfl, h2, h3, h4.swap1 (i := 0) rfl rfl rfl (.inr (h4.hold _ (List.mem_cons_self ..)).1)⟩
/-- .. and one that only reads it. -/
theorem FunM.own_read {f : FuncId} {e : TypeId} {sz : Nat} {rows : List (List Pr)} {v : Value} {p : Pr} {ps : List Pr} {res : Pr} [Free res] (hE : Entry P f) (h0 : rows = [] → v = .slice none 0 0 → Fun P f (is (.slice none 0 0) :: ps) res)
    (h1 : ∀ (b cap : Nat) (sp : List Value), v = .slice (some ⟨b, 0, none⟩) rows.length cap → rows.length ≤ cap → cap ≤ maxLen → sp.length = (cap - rows.length) * sz → FunM P f (andIs (.slice (some ⟨b, 0, none⟩) rows.length cap) (lens rows.length) :: ps) res (cellsRes true b e (rows.flatten ++ sp.map is)) (fun _ => cellsRes true b e (rows.flatten ++ sp.map is))) :
    FunM P f (andIs v p :: ps) res (ownRes e sz rows v) (fun _ => ownRes e sz rows v) := by
  refine ⟨hE, fun M0 w0 S rs M w vs hI hv => ?_⟩
  match vs, hv with
  | u0 :: vs1, hv1 =>
    obtain ⟨hu0, hv2⟩ := hv1
    obtain rfl : u0 = v := hu0.1
    have hb0 := hI.hold _ (List.mem_cons_self ..)
    rcases hb0.1 with ⟨hnil, rfl⟩ | hmut
    · refine ((h0 hnil rfl).2 M w _ hI.bd (show HL M w (_ :: _) (_ :: vs1) from ⟨rfl, hv2⟩)).mono ?_
      rintro e' w' ⟨u, rfl, h2, h3⟩
      have hI' : HpH M0 w0 S (ownRes e sz rows (.slice none 0 0) :: rs) M w' := (Hp M0 w0 S _).st _ _ _ h3 hI
      exact ⟨u, M, rfl, Free.free _ _ _ _ h2, Ext.below h3, hI'⟩
    · obtain ⟨b, cap, spare, rfl, hnc, hcm, hsp, hcr⟩ := hmut
      have hC := hI.swap1 (i := 0) (r' := cellsRes true b e (rows.flatten ++ spare.map is)) rfl rfl rfl hcr
      refine ((h1 b cap spare rfl hnc hcm hsp).2 M0 w0 S rs M w _ hC (show HL M w (_ :: _) (_ :: vs1) from ⟨⟨rfl, _, _, rfl⟩, hv2⟩)).mono ?_
      rintro e' w' ⟨u, M', rfl, h2, h3, h4⟩
      exact ⟨u, M', rfl, h2, h3, h4.swap1 (i := 0) rfl rfl rfl (.inr ⟨b, cap, spare, rfl, hnc, hcm, hsp, (h4.hold _ (List.mem_cons_self ..)).1⟩)⟩
/-- What two copies within a block make: one more in between. -/
theorem ins_place {A S : List Pr} {X : Pr} {i n : Nat} (hA : A.length = n) (hi : i < n) (hS : 0 < S.length) {P1 P2 : List Pr}
    (h1 : P1 = (A ++ S).take (i + 1) ++ ((A ++ S).drop i).take (n - i) ++ (A ++ S).drop (i + 1 + (n - i))) (h2 : P2 = P1.take i ++ [X] ++ P1.drop (i + 1)) : P2 = (A.take i ++ [X] ++ A.drop i) ++ S.drop 1 := by
  have e1 : (A ++ S).take (i + 1) = A.take i ++ (A.drop i).take 1 := by
    rw [List.take_append_of_le_length (by omega), List.take_add]
  have e2 : ((A ++ S).drop i).take (n - i) = A.drop i := by
    rw [List.drop_append_of_le_length (by omega), List.take_append_of_le_length (by rw [List.length_drop]; omega), List.take_of_length_le (by rw [List.length_drop]; omega)]
  have e3 : (A ++ S).drop (i + 1 + (n - i)) = S.drop 1 := by
    rw [show i + 1 + (n - i) = A.length + 1 by omega, List.drop_append]; simp
  have l1 : (A.take i).length = i := by rw [List.length_take]; omega
  have l2 : ((A.drop i).take 1).length = 1 := by rw [List.length_take, List.length_drop]; omega
  rw [e1, e2, e3] at h1
  subst h1
  subst h2
  have t1 : (A.take i ++ (A.drop i).take 1 ++ A.drop i ++ S.drop 1).take i = A.take i := by
    rw [List.append_assoc, List.append_assoc]; exact List.take_left' l1
  have t2 : (A.take i ++ (A.drop i).take 1 ++ A.drop i ++ S.drop 1).drop (i + 1) = A.drop i ++ S.drop 1 := by
    rw [List.append_assoc]; exact List.drop_left' (by rw [List.length_append]; omega)
  rw [t1, t2]
  simp
/-- What a longer block and two copies into it make. -/
theorem ins_grown {A S Z : List Pr} {X : Pr} {i n : Nat} (hA : A.length = n) (hi : i < n) (hZ : n + 1 - i ≤ Z.length) {P0 P1 P2 : List Pr}
    (h0 : P0 = (A ++ S).take i ++ Z) (h1 : P1 = P0.take i ++ [X] ++ P0.drop (i + 1)) (h2 : P2 = P1.take (i + 1) ++ A.drop i ++ P1.drop (i + 1 + (n - i))) : P2 = (A.take i ++ [X] ++ A.drop i) ++ Z.drop (n + 1 - i) := by
  have l1 : (A.take i).length = i := by rw [List.length_take]; omega
  rw [List.take_append_of_le_length (by omega)] at h0
  subst h0
  have e1 : (A.take i ++ Z).take i = A.take i := by rw [List.take_append_of_le_length (by omega), List.take_of_length_le (by omega)]
  have e2 : (A.take i ++ Z).drop (i + 1) = Z.drop 1 := by rw [List.drop_append, List.drop_of_length_le (by omega), List.nil_append, l1]; congr 1; omega
  rw [e1, e2] at h1
  subst h1
  have l2 : (A.take i ++ [X]).length = i + 1 := by simp; omega
  have e3 : (A.take i ++ [X] ++ Z.drop 1).take (i + 1) = A.take i ++ [X] := by rw [List.take_append_of_le_length (by omega), List.take_of_length_le (by omega)]
  have e4 : (A.take i ++ [X] ++ Z.drop 1).drop (i + 1 + (n - i)) = Z.drop (n + 1 - i) := by
    rw [List.drop_append, List.drop_of_length_le (by omega), List.nil_append, l2, List.drop_drop]; congr 1; omega
  rw [e3, e4] at h2
  exact h2
theorem ins_place2 {A S B : List Pr} {X : Pr} {i n o1 o2 o3 o4 o5 o6 : Nat} {X1 : List Pr} (hA : A.length = n) (hi : i < n) (hS : 0 < S.length) (h1 : o1 = i + 1) (h2 : o2 = i) (h3 : o3 = n - i) (h4 : o4 = i + 1 + (n - i)) (h5 : o5 = i) (h6 : o6 = i + 1) (hX : X1 = [X]) (hB : B = (A.take i ++ [X] ++ A.drop i) ++ S.drop 1) :
    ((A ++ S).take o1 ++ ((A ++ S).drop o2).take o3 ++ (A ++ S).drop o4).take o5 ++ X1 ++ ((A ++ S).take o1 ++ ((A ++ S).drop o2).take o3 ++ (A ++ S).drop o4).drop o6 = B := by
  subst h1 h2 h3 h4 h5 h6 hX hB
  exact ins_place hA hi hS rfl rfl
theorem ins_grown2 {A S Z B R : List Pr} {X : Pr} {i n o0 o1 o2 o3 o4 : Nat} {X1 : List Pr} (hA : A.length = n) (hi : i < n) (hZ : n + 1 - i ≤ Z.length) (h0 : o0 = i) (h1 : o1 = i) (h2 : o2 = i + 1) (h3 : o3 = i + 1) (h4 : o4 = i + 1 + (n - i)) (hX : X1 = [X]) (hR : R = A.drop i) (hB : B = (A.take i ++ [X] ++ A.drop i) ++ Z.drop (n + 1 - i)) :
    (((A ++ S).take o0 ++ Z).take o1 ++ X1 ++ ((A ++ S).take o0 ++ Z).drop o2).take o3 ++ R ++ (((A ++ S).take o0 ++ Z).take o1 ++ X1 ++ ((A ++ S).take o0 ++ Z).drop o2).drop o4 = B := by
  subst h0 h1 h2 h3 h4 hX hR hB
  exact ins_grown hA hi hZ rfl rfl rfl
theorem flat_take1 {β : Type} {f : β → List Pr} (hf : ∀ x, (f x).length = 1) : ∀ (l : List β) (i : Nat), ((l.map f).flatten).take i = ((l.take i).map f).flatten
  | [], i => by simp
  | a :: l, 0 => by simp
  | a :: l, i + 1 => by
    rw [List.map_cons, List.flatten_cons, List.take_succ_cons, List.map_cons, List.flatten_cons, ← flat_take1 hf l i, List.take_append, hf a, List.take_of_length_le (by rw [hf a]; omega)]; rfl
theorem flat_drop1 {β : Type} {f : β → List Pr} (hf : ∀ x, (f x).length = 1) : ∀ (l : List β) (i : Nat), ((l.map f).flatten).drop i = ((l.drop i).map f).flatten
  | [], i => by simp
  | a :: l, 0 => by simp
  | a :: l, i + 1 => by
    rw [List.map_cons, List.flatten_cons, List.drop_succ_cons, ← flat_drop1 hf l i, List.drop_append, hf a, List.drop_of_length_le (by rw [hf a]; omega)]; rfl
theorem flat_ins {β : Type} {f : β → List Pr} (hf : ∀ x, (f x).length = 1) {l : List β} {i : Nat} {x : β} {X : Pr} (hX : f x = [X]) : ((l.map f).flatten).take i ++ [X] ++ ((l.map f).flatten).drop i = ((l.take i ++ [x] ++ l.drop i).map f).flatten := by
  rw [flat_take1 hf, flat_drop1 hf, List.map_append, List.map_append, List.flatten_append, List.flatten_append, List.map_singleton, hX]; simp
instance free_tup2 (p q : Pr) [Free p] [Free q] : Free (tup [p, q]) := ⟨fun M M' w v ⟨cs, h1, h2⟩ => ⟨cs, h1, by
  match cs, h2 with
  | [a, b], h2 => exact ⟨Free.free _ _ _ _ h2.1, Free.free _ _ _ _ h2.2.1, trivial⟩⟩⟩
theorem ok_convU {I : Asn} {s t : TypeId} {x : Operand} {k : IntKind} {n : Int} (ho : o.op = .convert s t x) (hs : P.underlying s = some (.int k)) (ht : P.underlying t = some (.int .u64)) (hx : VL E x (is (.int k n))) (h0 : 0 ≤ n) (h1 : n ≤ 18446744073709551615) : OpOK P I o E (is (.int .u64 n)) := by
  have := ok_conv (P := P) (I := I) ho hs ht hx
  rwa [IntWalk.u64_in n ⟨h0, h1⟩] at this
theorem ok_half {I : Asn} {t u : TypeId} {x y : Operand} {m : Int} (ho : o.op = .binOp .shr t x y u) (hx : VL E x (is (.int .u64 m))) (hy : VL E y (is (.int .u64 1))) (h0 : 0 ≤ m) : OpOK P I o E (is (.int .u64 (m / 2))) :=
  OpOK.same fun M w a he _ => by
    have h1 : a.eval x = .int .u64 m := hx.ev he (by simp [ho, Op.operands])
    have h2 : a.eval y = .int .u64 1 := hy.ev he (by simp [ho, Op.operands])
    refine ⟨.int .u64 (m.fdiv 2), ?_, congrArg (Value.int .u64) (Int.fdiv_eq_ediv_of_nonneg m (by omega))⟩
    simp only [execOp, ho, h1, h2]
    simp [eqGuard, binOp, Op.shift, IntKind.bits]
end
end Cp
namespace Go.Proofs.YtgdlhajfajddiaaGreat
open Go Go.RowKit Cp

section
variable {α : Type} {c : α → α → Int} {l : List α} {x : α}
/-- How many are before x. -/
def posC (c : α → α → Int) (l : List α) (x : α) : Nat := (l.takeWhile fun y => decide (c y x < 0)).length
theorem posC_le (c : α → α → Int) (l : List α) (x : α) : posC c l x ≤ l.length := by
  unfold posC
  have h := List.takeWhile_append_dropWhile (p := fun y => decide (c y x < 0)) (l := l)
  have := congrArg List.length h
  rw [List.length_append] at this; omega
theorem posC_eq : ∀ {l : List α} {k : Nat}, k ≤ l.length → (∀ (j : Nat) y, j < k → l[j]? = some y → c y x < 0) → (∀ y, l[k]? = some y → ¬ c y x < 0) → posC c l x = k
  | [], k, hk, _, _ => by have : k = 0 := by simpa using hk
                          subst this; rfl
  | y :: r, 0, _, _, h2 => by unfold posC; rw [List.takeWhile_cons_of_neg (by simpa using h2 y rfl)]; rfl
  | y :: r, k + 1, hk, h1, h2 => by
    have ih := posC_eq (l := r) (k := k) (by simpa using hk) (fun j z hj hz => h1 (j + 1) z (by omega) (by simpa using hz)) (fun z hz => h2 z (by simpa using hz))
    unfold posC at ih ⊢
    rw [List.takeWhile_cons_of_pos (by simpa using h1 0 y (by omega) rfl), List.length_cons, ih]
theorem posC_lt : ∀ {l : List α} {j : Nat} {y : α}, j < posC c l x → l[j]? = some y → c y x < 0
  | [], j, y, h, _ => by unfold posC at h; simp at h
  | z :: r, j, y, h, hy => by
    by_cases hz : c z x < 0
    · cases j with
      | zero => simp at hy; subst hy; exact hz
      | succ j =>
        refine posC_lt (l := r) (j := j) ?_ (by simpa using hy)
        unfold posC at h ⊢
        rw [List.takeWhile_cons_of_pos (by simpa using hz), List.length_cons] at h; omega
    · unfold posC at h; rw [List.takeWhile_cons_of_neg (by simpa using hz)] at h; simp at h
theorem posC_ge : ∀ {l : List α} {y : α}, l[posC c l x]? = some y → ¬ c y x < 0
  | [], y, h => by simp at h
  | z :: r, y, h => by
    by_cases hz : c z x < 0
    · unfold posC at h
      rw [List.takeWhile_cons_of_pos (by simpa using hz), List.length_cons, List.getElem?_cons_succ] at h
      exact posC_ge (l := r) h
    · unfold posC at h; rw [List.takeWhile_cons_of_neg (by simpa using hz)] at h; simp at h; subst h; exact hz
abbrev hasC (c : α → α → Int) (l : List α) (x : α) : Bool := (l[posC c l x]?).any (fun y => decide (c y x = 0))
theorem insC_has (h : hasC c l x = true) : insC c l x = l := by
  rw [insC_at (posC_le c l x) (fun j y => posC_lt) (fun y => posC_ge), if_pos h]
theorem insC_not (h : hasC c l x = false) : insC c l x = l.take (posC c l x) ++ [x] ++ l.drop (posC c l x) := by
  rw [insC_at (posC_le c l x) (fun j y => posC_lt) (fun y => posC_ge), if_neg (by unfold hasC at h; simp [h])]; simp
abbrev AscC (c : α → α → Int) (l : List α) : Prop := l.Pairwise fun a b => c a b < 0
theorem bs_lt (hc : Cmp c) (hs : AscC c l) {h : Nat} {y : α} (hy : l[h]? = some y) (hyx : c y x < 0) : ∀ (k : Nat) z, k < h + 1 → l[k]? = some z → c z x < 0 := by
  intro k z hk hz
  rcases Nat.lt_or_eq_of_le (Nat.le_of_lt_succ hk) with h1 | h1
  · have hkl := lt_of_atX hz
    have hhl := lt_of_atX hy
    have := List.pairwise_iff_getElem.1 hs k h hkl hhl h1
    rw [List.getElem?_eq_getElem hkl] at hz
    rw [List.getElem?_eq_getElem hhl] at hy
    simp only [Option.some.injEq] at hz hy
    rw [hz, hy] at this
    exact hc.tr z y x this hyx
  · subst h1; rw [hy] at hz; cases hz; exact hyx
theorem bs_ge (hc : Cmp c) (hs : AscC c l) {h : Nat} {y : α} (hy : l[h]? = some y) (hyx : ¬ c y x < 0) : ∀ (k : Nat) z, h ≤ k → l[k]? = some z → ¬ c z x < 0 := by
  intro k z hk hz hzx
  rcases Nat.lt_or_eq_of_le hk with h1 | h1
  · have hkl := lt_of_atX hz
    have hhl := lt_of_atX hy
    have := List.pairwise_iff_getElem.1 hs h k hhl hkl h1
    rw [List.getElem?_eq_getElem hkl] at hz
    rw [List.getElem?_eq_getElem hhl] at hy
    simp only [Option.some.injEq] at hz hy
    rw [hz, hy] at this
    exact hyx (hc.tr y z x this hzx)
  · subst h1; rw [hy] at hz; cases hz; exact hyx hzx
theorem hasC_end {i : Nat} (hp : posC c l x = i) (hi : l.length ≤ i) : hasC c l x = false := by
  unfold hasC; rw [hp, List.getElem?_eq_none hi]; rfl
theorem hasC_at {i : Nat} {y : α} (hp : posC c l x = i) (hy : l[i]? = some y) : hasC c l x = decide (c y x = 0) := by
  unfold hasC; rw [hp, hy]; rfl
end

set_option maxRecDepth 20000 in
theorem w_isNaNs {a : List UInt8}  : Fun Tryz.prog 212 [str a] (bool false) := by
 refine Fun.of Tryz.func212 rfl rfl (by exact Nat.le_of_ble_eq_true rfl) fun M0 w0 => ?_
 refine Tr.seq (Tr.reg0 (cm rfl (Ch.nil (Fin.go (Tr.seq (Tr.reg0 (cm rfl (cm rfl (co rfl (ok_nes rfl (vl rfl) (vl rfl)) (cm rfl (Ch.nil (Fin.go (Tr.ret (Fin.ret1 rfl (OutW.bse _ _) rfl ?_))))))))))))))
 · refine bool_eq ?_; simp_all
set_option maxRecDepth 20000 in
theorem w_SisNaNs {a : List UInt8}  : Fun Tryz.prog 165 [str a] (bool false) := by
 refine Fun.of Tryz.func165 rfl rfl (by exact Nat.le_of_ble_eq_true rfl) fun M0 w0 => ?_
 refine Tr.seq (Tr.reg0 (cm rfl (Ch.nil (Fin.go (Tr.seq (Tr.reg0 (cm rfl (cm rfl (co rfl (ok_nes rfl (vl rfl) (vl rfl)) (cm rfl (Ch.nil (Fin.go (Tr.ret (Fin.ret1 rfl (OutW.bse _ _) rfl ?_))))))))))))))
 · refine bool_eq ?_; simp_all
set_option maxRecDepth 20000 in
theorem w_SisNaNi {a : Int}  : Fun Tryz.prog 169 [int a] (bool false) := by
 refine Fun.of Tryz.func169 rfl rfl (by exact Nat.le_of_ble_eq_true rfl) fun M0 w0 => ?_
 refine Tr.seq (Tr.reg0 (cm rfl (Ch.nil (Fin.go (Tr.seq (Tr.reg0 (cm rfl (cm rfl (co rfl (ki rfl rfl rfl rfl) (cm rfl (Ch.nil (Fin.go (Tr.ret (Fin.ret1 rfl (OutW.bse _ _) rfl ?_))))))))))))))
 · refine bool_eq ?_; simp_all
set_option maxRecDepth 20000 in
theorem w_lessS {a b : List UInt8}  : Fun Tryz.prog 164 [str a, str b] (bool (decide (Lib.compareBytes a b = -1))) := by
 refine Fun.of Tryz.func164 rfl rfl (by exact Nat.le_of_ble_eq_true rfl) fun M0 w0 => ?_
 refine Tr.seq (Tr.reg0 (cm rfl (Ch.nil (Fin.go (Tr.seq (Tr.reg0 (cm rfl (co rfl (ok_call rfl (w_isNaNs) ⟨ke rfl, trivial⟩) (cm rfl ?_)))))))))
 refine Ch.cs 7 rfl ?_ ?_ <;> intro h1 q1
 exact absurd h1 (by decide)
 refine cnt h1 rfl (cnt h1 rfl (cnt h1 rfl (co rfl (kpf rfl rfl h1 rfl) (cm rfl (cym rfl rfl (cym rfl rfl (cy rfl rfl (ok_lts rfl (vl rfl) (vl rfl)) (co rfl (kpf rfl rfl rfl rfl) (cm rfl (Ch.nil (Fin.go (wk1 4 rfl (Tr.ret (Fin.ret1 rfl (OutW.bse _ _) rfl ?_))))))))))))))
 · exact Pr.le_refl _
set_option maxRecDepth 20000 in
theorem w_BSBs {l : List (List UInt8)} {x : List UInt8} {b0 cap : Nat} {sp : List Value} (hs : AscC Lib.compareBytes l) (hl : l.length ≤ 1000000) (hcap : l.length ≤ cap) : FunM Tryz.prog 112 [andIs (.slice (some ⟨b0, 0, none⟩) l.length cap) (lens l.length), str x] (tup [int ((posC Lib.compareBytes l x : Nat) : Int), bool (hasC Lib.compareBytes l x)]) (cellsRes true b0 9 ((l.map (fun t : List UInt8 => [str t])).flatten ++ sp.map is)) (fun _ => cellsRes true b0 9 ((l.map (fun t : List UInt8 => [str t])).flatten ++ sp.map is)) := by
 refine FunM.of Tryz.func112 rfl rfl (by exact Nat.le_of_ble_eq_true rfl) fun M0 w0 S rs M1 w1 => ?_
 refine Tr.seq (Tr.reg0 (cm rfl (cm rfl (Ch.nil (Fin.go (Tr.seq (Tr.reg0 (cm rfl (co rfl (okb_len rfl Tryz.underlying53 ⟨_, rfl, andIs_is _ _⟩) (cm rfl (Ch.nil (Fin.go (Tr.seq (Tr.reg0 ?_))))))))))))))
 refine cm rfl (cm rfl (cm rfl (Ch.nil (Fin.go (Tr.seq (Tr.block ?_))))))
 refine Tr.loopD2V0 [(0, _), (1, _), (6, _)] ⟨ke rfl, ke rfl, ke rfl, trivial⟩ (fun (i : Nat) (j : Nat) => [(7, int ((i : Nat) : Int)), (8, int ((j : Nat) : Int))]) (fun (i : Nat) (j : Nat) => Hp M0 w0 S (cellsRes true b0 9 ((l.map (fun t : List UInt8 => [str t])).flatten ++ sp.map is) :: extRes M1 w1 :: rs)) (fun (i : Nat) (j : Nat) => i ≤ j ∧ j ≤ l.length ∧ (∀ (k : Nat) y, k < i → l[k]? = some y → Lib.compareBytes y x < 0) ∧ (∀ (k : Nat) y, j ≤ k → l[k]? = some y → ¬ Lib.compareBytes y x < 0)) (fun (i : Nat) (j : Nat) => j - i) (0) (l.length)  (⟨Nat.zero_le _, Nat.le_refl _, fun k y h => absurd h (Nat.not_lt_zero _), fun k y h1 h2 => by rw [List.getElem?_eq_none h1] at h2; cases h2⟩) ⟨ke rfl, ke rfl, trivial⟩ (fun _ _ h => h) ?_
 rintro i j  ⟨hi1, hi2, hi3, hi4⟩
 refine Tr.seq (Tr.seq (Tr.reg0 (cm rfl (cm rfl (co rfl (ki rfl rfl rfl rfl) (Ch.nil (Fin.go ?_)))))))
 refine Tr.cn rfl ?_ ?_ <;> intro h1 q1
 have hij : i < j := by have := of_decide_eq_true h1; omega
 obtain ⟨y, hyn⟩ := at_ (l := l) (k := (i + j) / 2) (by omega)
 have hy : l[((((i : Nat) : Int) + ((j : Nat) : Int)) / 2).toNat]? = some y := by rw [show ((((i : Nat) : Int) + ((j : Nat) : Int)) / 2).toNat = (i + j) / 2 by omega]; exact hyn
 refine Tr.skip (Fin.go (Tr.block (Tr.seq (Tr.reg0 (cm rfl (cm rfl (cad rfl rfl rfl rfl (by omega) (co rfl (ok_convU rfl Tryz.underlying3 Tryz.underlying150 (vl rfl) (by omega) (by omega)) (co rfl (ok_half rfl (vl rfl) (vl rfl) (by omega)) ?_)))))))))
 refine co rfl (ok_convI rfl Tryz.underlying150 Tryz.underlying3 (vl rfl) (by unfold InI; omega)) ?_
 refine cm rfl (Ch.nil (Fin.go (wk6 0 1 6 7 8 9 rfl (Tr.seq (Tr.reg0 (cm rfl (cm rfl (co rfl (okp_indexSl rfl Tryz.underlying53 sz9 ⟨_, rfl, andIs_is _ _⟩ (vl rfl) (by omega) (by omega)) (co rfl (ok_rd 0 rfl (rd_load1 rfl one9 (vl rfl) (cell1_at (f := fun t : List UInt8 => [str t]) (fun _ => rfl) (i := (((i : Nat) : Int) + ((j : Nat) : Int)) / 2) hy rfl))) (cm rfl (co rfl (ok_call rfl (w_lessS) ⟨ke rfl, ke rfl, trivial⟩) (Ch.nil (Fin.go ?_)))))))))))))
 refine Tr.cn rfl ?_ ?_ <;> intro h2 q2
 have hlt := q2
 refine Tr.reg0 (cm rfl (cad rfl rfl rfl rfl (by omega) (cm rfl (Ch.nil (Fin.block ?_)))))
 exact Fin.famD2V0 ((i + j) / 2 + 1) (j)  (⟨⟨by omega, by omega, bs_lt cmp_bytes hs hyn (by have := cmp_in y x; omega), hi4⟩, by omega⟩) ⟨⟨_, rfl, int_eq (by omega)⟩, ⟨_, rfl, int_eq (by omega)⟩, ke rfl, ke rfl, ke rfl, trivial⟩ (fun _ _ h => h)
 have hlt := q2
 refine Tr.reg0 (cm rfl (cm rfl (Ch.nil (Fin.block ?_))))
 exact Fin.famD2V0 (i) ((i + j) / 2)  (⟨⟨by omega, by omega, hi3, bs_ge cmp_bytes hs hyn (by have := cmp_in y x; omega)⟩, by omega⟩) ⟨⟨_, rfl, int_eq (by omega)⟩, ⟨_, rfl, int_eq (by omega)⟩, ke rfl, ke rfl, ke rfl, trivial⟩ (fun _ _ h => h)
 obtain rfl : i = j := (by have := of_decide_eq_false h1; omega)
 have hp : posC Lib.compareBytes l x = i := posC_eq (by omega) hi3 (fun y hy => hi4 i y (by omega) hy)
 refine Tr.exit (Fin.then_exit (Fin.then_exit (Fin.block_here (Fin.go (Tr.seq (Tr.reg0 (cm rfl (cm rfl (cm rfl (co rfl (ki rfl rfl rfl rfl) (cm rfl ?_)))))))))))
 refine Ch.cs 35 rfl ?_ ?_ <;> intro h3 q3
 obtain ⟨y, hyi⟩ := at_ (l := l) (k := i) (by omega)
 refine cym h3 rfl (cym h3 rfl (cy h3 rfl (okp_indexSl rfl Tryz.underlying53 sz9 ⟨_, rfl, andIs_is _ _⟩ (vl rfl) (by omega) (by omega)) ?_))
 refine cy h3 rfl (ok_rd 0 rfl (rd_load1 rfl one9 (vl rfl) (cell1_at (f := fun t : List UInt8 => [str t]) (fun _ => rfl) (i := ((i : Nat) : Int)) (by rw [Int.toNat_natCast]; exact hyi) rfl))) ?_
 refine cym h3 rfl (cy h3 rfl (ok_eqs rfl (vl rfl) (vl rfl)) (cym h3 rfl ?_))
 refine Ch.cs 42 rfl ?_ ?_ <;> intro h4 q4
 iterate 6 refine cnf h4 rfl ?_
 refine cu rfl (cu rfl (cnf h4 rfl (cy h3 rfl (kpt rfl rfl h4 rfl) (co rfl (kpt rfl rfl h3 rfl) (cm rfl (cm rfl (Ch.nil (Fin.go (wk2 4 5 rfl (Tr.ret (Fin.retM2 rfl rfl ?_ rfl ?_)))))))))))
 · exact int_eq (by rw [hp])
 · refine bool_eq ?_; rw [hasC_at hp hyi]; symm; rw [decide_eq_true_eq]; exact (cmp_zero _ _).2 (by simp_all)
 refine cym h4 rfl (cym h4 rfl (cy h4 rfl (okp_indexSl rfl Tryz.underlying53 sz9 ⟨_, rfl, andIs_is _ _⟩ (vl rfl) (by omega) (by omega)) ?_))
 refine cy h4 rfl (ok_rd 0 rfl (rd_load1 rfl one9 (vl rfl) (cell1_at (f := fun t : List UInt8 => [str t]) (fun _ => rfl) (i := ((i : Nat) : Int)) (by rw [Int.toNat_natCast]; exact hyi) rfl))) ?_
 refine cy h4 rfl (ok_call rfl (w_SisNaNs) ⟨ke rfl, trivial⟩) (cym h4 rfl ?_)
 refine Ch.cs 48 rfl ?_ ?_ <;> intro h5 q5
 exact absurd h5 (by decide)
 refine cnt h5 rfl (cnt h5 rfl (cy h4 rfl (kpf rfl rfl h5 rfl) (cy h3 rfl (kpf rfl rfl h4 rfl) (co rfl (kpt rfl rfl h3 rfl) (cm rfl (cm rfl (Ch.nil (Fin.go (wk2 4 5 rfl (Tr.ret (Fin.retM2 rfl rfl ?_ rfl ?_)))))))))))
 · exact int_eq (by rw [hp])
 · refine bool_eq ?_; rw [hasC_at hp hyi]; symm; rw [decide_eq_false_iff_not]; intro h0; have := (cmp_zero _ _).1 h0; simp_all
 iterate 7 refine cnt h3 rfl ?_
 iterate 9 refine cu rfl ?_
 refine cnt h3 rfl (co rfl (kpf rfl rfl h3 rfl) (cm rfl (cm rfl (Ch.nil (Fin.go (wk2 4 5 rfl (Tr.ret (Fin.retM2 rfl rfl ?_ rfl ?_))))))))
 · exact int_eq (by rw [hp])
 · refine bool_eq ?_; rw [hasC_end hp (by omega)]
theorem e_BSBs : Entry Tryz.prog 112 := ⟨_, Tryz.func112, rfl, rfl⟩
set_option maxRecDepth 20000 in
theorem w_BSNs {x : List UInt8}  : Fun Tryz.prog 112 [is (.slice none 0 0), str x] (tup [int 0, bool false]) := by
 refine Fun.of Tryz.func112 rfl rfl (by exact Nat.le_of_ble_eq_true rfl) fun M0 w0 => ?_
 refine Tr.seq (Tr.reg0 (cm rfl (cm rfl (Ch.nil (Fin.go (Tr.seq (Tr.reg0 (cm rfl (co rfl (ok_lennil rfl Tryz.underlying53 (vl rfl)) (cm rfl (Ch.nil (Fin.go (Tr.seq (Tr.reg0 ?_))))))))))))))
 refine cm rfl (cm rfl (cm rfl (Ch.nil (Fin.go (Tr.seq (Tr.block (Tr.loopw [(0, _), (1, _), (6, _)] (kk3 rfl) (fun (u : Unit) => [(7, int 0), (8, int 0)]) (fun (u : Unit) => True) (fun (u : Unit) => 0) () (trivial) ⟨ke rfl, ke rfl, trivial⟩ ?_)))))))
 rintro u _
 refine Tr.seq (Tr.seq (Tr.reg0 (cm rfl (cm rfl (co rfl (ki rfl rfl rfl rfl) (Ch.nil (Fin.go ?_)))))))
 refine Tr.cn rfl ?_ ?_ <;> intro h1 q1
 exact absurd h1 (by decide)
 have := h1
 refine Tr.exit (Fin.then_exit (Fin.then_exit (Fin.block_here (Fin.go (Tr.seq (Tr.reg0 (cm rfl (cm rfl (cm rfl (co rfl (ki rfl rfl rfl rfl) (cm rfl ?_)))))))))))
 refine Ch.cs 35 rfl ?_ ?_ <;> intro h2 q2
 exact absurd h2 (by decide)
 iterate 7 refine cnt h2 rfl ?_
 iterate 9 refine cu rfl ?_
 refine cnt h2 rfl (co rfl (kpf rfl rfl h2 rfl) (cm rfl (cm rfl (Ch.nil (Fin.go (wk2 4 5 rfl (Tr.ret (Fin.ret2 rfl (OutW.bse _ _) rfl ?_ rfl ?_))))))))
 · exact Pr.le_refl _
 · exact Pr.le_refl _
theorem w_BSs {l : List (List UInt8)} {x : List UInt8} {v : Value} {p : Pr} (hs : AscC Lib.compareBytes l) (hl : l.length ≤ 1000000) : FunM Tryz.prog 112 [andIs v p, str x] (tup [int ((posC Lib.compareBytes l x : Nat) : Int), bool (hasC Lib.compareBytes l x)]) (ownRes 9 1 (l.map (fun t : List UInt8 => [str t])) v) (fun _ => ownRes 9 1 (l.map (fun t : List UInt8 => [str t])) v) := by
  refine FunM.own_read e_BSBs (fun h0 _ => ?_) (fun b cap sp _ hc hm hq => ?_)
  · have hl0 : l = [] := by simpa using h0
    subst hl0; exact w_BSNs
  · rw [List.length_map]
    rw [List.length_map] at hc
    exact w_BSBs hs hl hc

set_option maxRecDepth 20000 in
set_option maxHeartbeats 1000000 in
theorem w_InsBs {l : List (List UInt8)} {x : List UInt8} {b0 cap i : Nat} {sp : List Value} (hi : i ≤ l.length) (hl : l.length ≤ 1000000) (hc : l.length ≤ cap) (hm : cap ≤ maxLen) (hq : sp.length = cap - l.length) : FunM Tryz.prog 113 [andIs (.slice (some ⟨b0, 0, none⟩) l.length cap) (lens l.length), int ((i : Nat) : Int), slice 1 [[str x]]] (lens (l.length + 1)) (cellsRes true b0 9 ((l.map (fun t : List UInt8 => [str t])).flatten ++ sp.map is)) (fun v => ownRes 9 1 ((l.take i ++ [x] ++ l.drop i).map (fun t : List UInt8 => [str t])) v) := by
 refine FunM.of Tryz.func113 rfl rfl (by exact Nat.le_of_ble_eq_true rfl) fun M0 w0 S rs M1 w1 => ?_
 have hv2 : ([[str x]] : List (List Pr)).flatten.length = 1 := rfl
 have hv1 : ([[str x]] : List (List Pr)).length = 1 := rfl
 have hAl : ((l.map (fun t : List UInt8 => [str t])).flatten).length = l.length := by rw [flat_len (sz := 1) (map_rows fun _ => rfl), List.length_map]; omega
 have e1 : (((i : Nat) : Int) + (1 : Int)).toNat = i + 1 := by omega
 have e2 : ((i : Nat) : Int).toNat = i := by omega
 refine Tr.seq (Tr.reg0 (cm rfl (Ch.nil (Fin.go (Tr.seq (Tr.reg0 (cm rfl (cm rfl (co rfl (okb_sliceAny rfl Tryz.underlying53 sz9 ⟨_, rfl, andIs_is _ _⟩ (vl rfl) (by omega) (by omega) (by omega)) (Ch.nil (Fin.go (Tr.seq (Tr.reg0 ?_)))))))))))))
 refine cm rfl (co rfl (ok_len rfl Tryz.underlying53 (vl rfl)) (cm rfl (Ch.nil (Fin.go (Tr.seq (Tr.seq (Tr.reg0 (cm rfl (co rfl (ki rfl rfl rfl rfl) (Ch.nil (Fin.go ?_)))))))))))
 refine Tr.cn rfl ?_ ?_ <;> intro h1 q1
 simp at h1
 refine Tr.skip (Fin.go (Tr.seq (Tr.reg0 (cm rfl (co rfl (okb_len rfl Tryz.underlying53 ⟨_, rfl, andIs_is _ _⟩) (cm rfl (Ch.nil (Fin.go (Tr.seq (Tr.seq (Tr.reg0 (cm rfl (cm rfl ?_)))))))))))))
 refine co rfl (ki rfl rfl rfl rfl) (Ch.nil (Fin.go (wk6 0 1 2 7 8 22 rfl ?_)))
 refine Tr.cn rfl ?_ ?_ <;> intro h2 q2
 refine Tr.seq (Tr.closeG (sz := 1) 0 rfl (rows := l.map (fun t : List UInt8 => [str t])) (sp := sp) rfl (by simp) hc hm (by omega) (Tr.regT (tm rfl (tm rfl ?_))))
 refine TO.efs 0 rfl rfl (by decide) (ef_appmut rfl rfl (by decide) rfl Tryz.underlying53 sz9 by9 z9 rfl (by decide) (by decide) (vl rfl) (vl rfl) (map_rows fun _ => rfl) (Nat.zero_lt_succ _) (by simp only [List.length_map, List.length_cons, List.length_nil]; unfold maxLen; omega) (by simp only [List.length_map, List.length_cons, List.length_nil]; omega)) (fun v1 => ?_)
 refine tm rfl (TO.nil (Fin.go (Tr.ret (Fin.then_ret ?_))))
 refine Fin.retM1 rfl rfl ?_ (by rintro _ _ _ ⟨rfl, _⟩; rw [show i = l.length by omega, List.take_length, List.drop_length, List.append_nil, List.map_append]; rfl)
 · exact Pr.le_trans (andIs_le _ _) (Pr.le_of_eq (by simp))
 refine Tr.skip (Fin.go (Tr.seq (Tr.seq (Tr.reg0 (cm rfl (cm rfl (cad rfl rfl rfl rfl (by omega) (cm rfl (co rfl (okb_cap rfl Tryz.underlying53 ⟨_, rfl, andIs_is _ _⟩) (co rfl (ki rfl rfl rfl rfl) (Ch.nil (Fin.go ?_))))))))))))
 refine Tr.cn rfl ?_ ?_ <;> intro h3 q3
 refine Tr.seq (Tr.regT (tm rfl (tm rfl (tp rfl (okb_sliceTo rfl Tryz.underlying53 sz9 ⟨_, rfl, andIs_is _ _⟩ (vl rfl) (by omega) (by omega) (by omega) (by omega)) (tm rfl (tm rfl ?_))))))
 refine tp rfl (ok_add rfl (vl rfl) (vl rfl) ?hin) ?_; case hin => unfold InI; omega
 refine tm rfl ?_
 refine tp rfl (ok_sub rfl (vl rfl) (vl rfl) ?hin) ?_; case hin => unfold InI; omega
 refine TO.pad ?_
 refine TO.appzs 0 1 rfl rfl rfl rfl (by decide) rfl Tryz.underlying53 Tryz.underlying3 sz9 by9 z9 rfl (by decide) (by decide) (vl rfl) (vl rfl) (i := i) (k := l.length + 1 - i) (by omega) (by simp only [List.length_append, List.length_take, List.length_drop, List.length_map, hAl, hv1, hv2, Nat.mul_one]; omega) (by omega) (by omega) (by unfold maxLen; omega) (by omega) (fun b1 cap1 sp1 hg1 hm1 hs1 => ?_)
 refine tm rfl (TO.nil (Fin.go (wk5 0 1 2 7 9 rfl (Tr.seq ?_))))
 have hsz : sp1.length = cap1 - i := by have := hs1; rw [List.length_take, List.length_append, hAl, Nat.mul_one, Nat.mul_one] at this; omega
 refine Tr.frzS (sz := 1) (l.map (fun t : List UInt8 => [str t])) 1 0 rfl rfl (Pr.le_trans (andIs_is _ _) (Pr.le_of_eq (by simp))) (map_rows fun _ => rfl) (by rw [List.length_map]; exact hc) hm (by rw [List.length_map, List.length_map]; omega) ?_
 refine Tr.regT (tm rfl (tm rfl (tp rfl (okb_sliceFrom rfl Tryz.underlying53 sz9 (vl rfl) (vl rfl) (by omega) (by omega) (by omega)) (tm rfl ?_))))
 refine TO.efc 0 rfl rfl (by decide) (ef_copyS rfl rfl rfl Tryz.underlying53 sz9 (by decide) (vl rfl) (vl rfl) (by omega) (by omega) (by simp only [List.length_append, List.length_take, List.length_drop, List.length_map, hAl, hv1, hv2, Nat.mul_one]; omega) rfl) ?_
 refine TO.nil (Fin.go (Tr.seq (Tr.regX mixed [none, none, none, none, none, none, none, none, some (0, 0, true, 0)] (by kernel_rfl) (xm rfl (xm rfl (xm rfl ?_))))))
 refine xo rfl (fun _ => ok_add rfl (vl rfl) (vl rfl) ?hin) ?_; case hin => unfold InI; omega
 refine xo rfl (fun _ => okb_sliceFrom rfl Tryz.underlying53 sz9 (vl rfl) (vl rfl) (by omega) (by omega) (by omega)) (xm rfl (xm rfl ?_))
 refine xo rfl (fun _ => ok_sliceFrom rfl Tryz.underlying53 sz9 ⟨_, rfl, andIs_le _ _⟩ (vl rfl) (by omega) (by simp; omega)) ?_
 refine Cx.ef 0 rfl rfl (by decide) (ef_copyS rfl rfl rfl Tryz.underlying53 sz9 (by decide) (vl rfl) (vl rfl) (by simp only [List.length_append, List.length_take, List.length_drop, List.length_map, hAl, hv1, hv2, Nat.mul_one]; omega) (by simp only [List.length_append, List.length_take, List.length_drop, List.length_map, hAl, hv1, hv2, Nat.mul_one]; omega) (by simp only [List.length_append, List.length_take, List.length_drop, List.length_map, hAl, hv1, hv2, Nat.mul_one]; omega) rfl) ?_
 refine Cx.nil ⟨rfl, ?_⟩
 refine FinX.done (AllC.cons (AllC.cons (AllC.cons (AllC.map _)))) (Fin.go (wk1 9 rfl (Tr.seq (Tr.reg0 (cm rfl (cm rfl (Ch.nil (Fin.go (Tr.ret (Fin.then_ret ?_))))))))))
 refine Fin.closeH (sz := 1) 0 rfl (rows := ((l.take i ++ [x] ++ l.drop i).map (fun t : List UInt8 => [str t]))) (sp := sp1.drop (l.length + 1 - i)) (m := i + (l.length + 1 - i)) (ins_grown2 (i := i) (Z := sp1.map is) (n := l.length) hAl (by omega) (by rw [List.length_map]; omega) (by omega) (by omega) (by omega) (by omega) (by rw [List.length_drop, List.length_map]; omega) rfl (by rw [← List.map_drop, flat_drop1 (f := fun t : List UInt8 => [str t]) (fun _ => rfl), e2]) (by rw [List.map_drop, ← flat_ins (f := fun t : List UInt8 => [str t]) (l := l) (i := i) (x := x) (fun _ => rfl) rfl])) (by simp only [List.length_map, List.length_append, List.length_take, List.length_drop, List.length_cons, List.length_nil]; omega) (by omega) hm1 (by rw [List.length_drop]; omega) ?_
 refine Fin.drop 1 ?_
 refine Fin.retM1 rfl rfl ?_ (by rintro _ _ _ rfl; rfl)
 · rintro _ _ _ rfl; exact ⟨_, _, by congr 1; omega⟩
 refine Tr.skip (Fin.go (Tr.seq (Tr.reg0 (cm rfl (cm rfl (cm rfl (cad rfl rfl rfl rfl (by omega) (co rfl (okb_sliceCap rfl Tryz.underlying53 sz9 ⟨_, rfl, andIs_is _ _⟩ (vl rfl) (by omega) (by omega) (by omega)) (cm rfl (Ch.nil (Fin.go (wk5 0 1 2 7 8 rfl (Tr.seq (Tr.seq ?_))))))))))))))
 refine Tr.regT ?_
 iterate 4 refine tm rfl ?_
 refine tp rfl (ok_add rfl (vl rfl) (vl rfl) ?hin) ?_; case hin => unfold InI; omega
 refine tp rfl (okb_sliceFrom rfl Tryz.underlying53 sz9 (vl rfl) (vl rfl) (by omega) (by omega) (by omega)) ?_
 refine TO.rd 0 rfl rfl rfl (by decide) (rd_overlaps (tR := 4) rfl Tryz.func166 (by kernel_rfl) (by kernel_rfl) (by kernel_rfl) (by kernel_rfl) Tryz.underlying53 sz9 (by decide) (vl rfl) (by exact Nat.zero_lt_succ _) (vl rfl) (by simp only [List.length_append, List.length_take, List.length_drop, List.length_map, hAl, hv1, hv2, Nat.mul_one]; omega)) ?_
 refine tp rfl (ok_not rfl (vl rfl)) (TO.nil (Fin.go ?_))
 refine Tr.cn rfl ?_ ?_ <;> intro h4 q4
 refine Tr.seq (Tr.regX mixed [none, none, none, none, none, none, none, none, some (0, 0, true, 0)] (by kernel_rfl) (xm rfl (xm rfl (xm rfl ?_))))
 refine xo rfl (fun _ => ok_add rfl (vl rfl) (vl rfl) ?hin) ?_; case hin => unfold InI; omega
 refine xo rfl (fun _ => okb_sliceFrom rfl Tryz.underlying53 sz9 (vl rfl) (vl rfl) (by omega) (by omega) (by omega)) (xm rfl (xm rfl (xo rfl (fun _ => okb_sliceFrom rfl Tryz.underlying53 sz9 (vl rfl) (vl rfl) (by omega) (by omega) (by omega)) ?_)))
 refine Cx.ef 0 rfl rfl (by decide) (ef_copyB (m := l.length - i) rfl rfl rfl Tryz.underlying53 sz9 (vl rfl) (vl rfl) (by show _ = min _ _; omega) (by simp only [List.length_append, List.length_take, List.length_drop, List.length_map, hAl, hv1, hv2, Nat.mul_one]; omega) (by simp only [List.length_append, List.length_take, List.length_drop, List.length_map, hAl, hv1, hv2, Nat.mul_one]; omega) rfl) ?_
 refine Cx.nil ⟨rfl, ?_⟩
 refine FinX.done (AllC.cons (AllC.cons (AllC.map _))) (Fin.go (wk3 0 1 2 rfl (Tr.seq (Tr.regT (tm rfl (tm rfl (tp rfl (okb_sliceFrom rfl Tryz.underlying53 sz9 (vl rfl) (vl rfl) (by omega) (by omega) (by omega)) (tm rfl ?_))))))))
 refine TO.efc 0 rfl rfl (by decide) (ef_copyS rfl rfl rfl Tryz.underlying53 sz9 (by decide) (vl rfl) (vl rfl) (by omega) (by omega) (by simp only [List.length_append, List.length_take, List.length_drop, List.length_map, hAl, hv1, hv2, Nat.mul_one]; omega) rfl) ?_
 refine TO.nil (Fin.go (Tr.seq (Tr.reg0 (cm rfl (cm rfl (Ch.nil (Fin.go (Tr.ret (Fin.then_ret ?_)))))))))
 refine Fin.closeH (sz := 1) 0 rfl (rows := ((l.take i ++ [x] ++ l.drop i).map (fun t : List UInt8 => [str t]))) (sp := sp.drop 1) (m := l.length + 1) (ins_place2 (i := i) (S := sp.map is) (n := l.length) hAl (by omega) (by rw [List.length_map]; omega) (by omega) (by omega) (by omega) (by omega) (by omega) (by omega) rfl (by rw [List.map_drop, ← flat_ins (f := fun t : List UInt8 => [str t]) (l := l) (i := i) (x := x) (fun _ => rfl) rfl])) (by simp only [List.length_map, List.length_append, List.length_take, List.length_drop, List.length_cons, List.length_nil]; omega) (by omega) hm (by rw [List.length_drop]; omega) ?_
 refine Fin.retM1 rfl rfl ?_ (by rintro _ _ _ rfl; rfl)
 · rintro _ _ _ rfl; exact ⟨_, _, by rfl⟩
 exact absurd h4 (by decide)
theorem e_InsBs : Entry Tryz.prog 113 := ⟨_, Tryz.func113, rfl, rfl⟩
set_option maxRecDepth 20000 in
theorem w_InsNs {x : List UInt8}  : FunM Tryz.prog 113 [is (.slice none 0 0), int ((0 : Nat) : Int), slice 1 [[str x]]] (lens 1) (noRes) (fun v => mutRes 9 1 [[str x]] v) := by
 refine FunM.of Tryz.func113 rfl rfl (by exact Nat.le_of_ble_eq_true rfl) fun M0 w0 S rs M1 w1 => ?_
 have hv1 : ([[str x]] : List (List Pr)).length = 1 := rfl
 refine Tr.seq (Tr.reg0 (cm rfl (Ch.nil (Fin.go (Tr.seq (Tr.reg0 (cm rfl (cm rfl (co rfl (ok_sliceFrom rfl Tryz.underlying53 sz9 ⟨_, rfl, nil_slice _⟩ (vl rfl) (by omega) (by omega)) (Ch.nil (Fin.go (Tr.seq (Tr.reg0 ?_)))))))))))))
 refine cm rfl (co rfl (ok_len rfl Tryz.underlying53 (vl rfl)) (cm rfl (Ch.nil (Fin.go (Tr.seq (Tr.seq (Tr.reg0 (cm rfl (co rfl (ki rfl rfl rfl rfl) (Ch.nil (Fin.go ?_)))))))))))
 refine Tr.cn rfl ?_ ?_ <;> intro h1 q1
 simp at h1
 refine Tr.skip (Fin.go (Tr.seq (Tr.reg0 (cm rfl (co rfl (ok_lennil rfl Tryz.underlying53 (vl rfl)) (cm rfl (Ch.nil (Fin.go (Tr.seq (Tr.seq (Tr.reg0 (cm rfl (cm rfl ?_)))))))))))))
 refine co rfl (ki rfl rfl rfl rfl) (Ch.nil (Fin.go (wk6 0 1 2 7 8 22 rfl ?_)))
 refine Tr.cn rfl ?_ ?_ <;> intro h2 q2
 refine Tr.seq (Tr.regT (tm rfl (tm rfl (TO.pad ?_))))
 refine TO.efs 0 rfl rfl (by decide) (ef_appvoid rfl rfl (by decide) rfl Tryz.underlying53 sz9 by9 z9 rfl (by decide) (by decide) ⟨_, rfl, nil_full 1⟩ (vl rfl) (by simp) (by simp; unfold maxLen; omega) (by simp)) (fun v1 => ?_)
 refine tm rfl (TO.nil (Fin.go (Tr.ret (Fin.then_ret (Fin.drop 1 ?_)))))
 refine Fin.retM1 rfl rfl ?_ (by intro _ _ _ h; rw [h.1])
 · exact Pr.le_trans (andIs_le _ _) (Pr.le_refl _)
 exact absurd h2 (by decide)
theorem w_Inss {l : List (List UInt8)} {x : List UInt8} {v : Value} {p : Pr} {i : Nat} (hi : i ≤ l.length) (hl : l.length ≤ 1000000) : FunM Tryz.prog 113 [andIs v p, int ((i : Nat) : Int), slice 1 [[str x]]] (lens (l.length + 1)) (ownRes 9 1 (l.map (fun t : List UInt8 => [str t])) v) (fun v => ownRes 9 1 ((l.take i ++ [x] ++ l.drop i).map (fun t : List UInt8 => [str t])) v) := by
  refine FunM.own_cases e_InsBs (fun h0 _ => ?_) (fun b cap sp _ hc hm hq => ?_)
  · have hl0 : l = [] := by simpa using h0
    subst hl0
    have hi0 : i = 0 := by simpa using hi
    subst hi0
    exact FunM.own_of_mut w_InsNs
  · rw [List.length_map] at hc hq ⊢
    exact w_InsBs hi hl hc hm (by omega)
set_option maxRecDepth 20000 in
theorem w_inss {l : List (List UInt8)} {x : List UInt8} {v : Value} (hs : AscC Lib.compareBytes l) (hl : l.length ≤ 1000000) : FunM Tryz.prog 62 [andIs v (lens l.length), str x] (lens (insC Lib.compareBytes l x).length) (ownRes 9 1 (l.map (fun t : List UInt8 => [str t])) v) (fun v => ownRes 9 1 ((insC Lib.compareBytes l x).map (fun t : List UInt8 => [str t])) v) := by
 refine FunM.of Tryz.func62 rfl rfl (by exact Nat.le_of_ble_eq_true rfl) fun M0 w0 S rs M1 w1 => ?_
 refine Tr.seq (Tr.reg0 (cm rfl (Ch.nil (Fin.go (Tr.seq (Tr.regT (tm rfl (tm rfl ?_))))))))
 refine TO.efc 0 rfl rfl (by decide) (ef_callc rfl rfl (by decide) rfl (w_BSs (l := l) (x := x) hs hl) ⟨ke rfl, ke rfl, trivial⟩) ?_
 refine tm rfl (tp rfl (ok_extract rfl (vl rfl) rfl) (tp rfl (ok_extract rfl (vl rfl) rfl) (tm rfl (tm rfl (TO.nil (Fin.go (Tr.seq (Tr.seq (Tr.reg0 (cm rfl (Ch.nil (Fin.go ?_))))))))))))
 refine Tr.cn rfl ?_ ?_ <;> intro h1 q1
 have hE := insC_has (c := Lib.compareBytes) (l := l) (x := x) h1
 refine Tr.seq (Tr.reg0 (cm rfl (cm rfl (Ch.nil (Fin.go (Tr.ret (Fin.then_ret ?_)))))))
 refine Fin.retM1 rfl rfl ?_ (by rintro _ _ _ ⟨rfl, _⟩; rw [hE])
 · rw [hE]; exact andIs_le _ _
 have hE := insC_not (c := Lib.compareBytes) (l := l) (x := x) h1
 have hp := posC_le Lib.compareBytes l x
 refine Tr.skip (Fin.go (Tr.seq (Tr.regT (tm rfl (tm rfl (tm rfl (tp rfl (ok_buildSlice (xs := [.tmp 17]) (rows := [[_]]) rfl rfl Tryz.underlying53 sz9 z9 rfl (by decide) ⟨⟨(by exact rfl), (VL.le (vl rfl) (one_cellsP _))⟩, trivial⟩ (by decide)) ?_)))))))
 refine TO.efs 0 rfl rfl (by decide) (ef_call rfl rfl (by decide) rfl (w_Inss (l := l) (x := x) (i := posC Lib.compareBytes l x) (posC_le _ _ _) hl) ⟨ke rfl, ke rfl, ⟨_, rfl, full_le _ _⟩, trivial⟩) (fun v1 => ?_)
 refine tm rfl (TO.nil (Fin.go (wk1 4 rfl (Tr.ret ?_))))
 refine Fin.retM1 rfl rfl ?_ (by rintro _ _ _ ⟨rfl, _⟩; rw [hE])
 · rw [hE]; exact Pr.le_trans (andIs_le _ _) (Pr.le_of_eq (by congr 1; simp; omega))
set_option maxRecDepth 20000 in
theorem w_BSBi {l : List (Int)} {x : Int} {b0 cap : Nat} {sp : List Value} (hs : AscC cmpI l) (hl : l.length ≤ 1000000) (hcap : l.length ≤ cap) : FunM Tryz.prog 114 [andIs (.slice (some ⟨b0, 0, none⟩) l.length cap) (lens l.length), int x] (tup [int ((posC cmpI l x : Nat) : Int), bool (hasC cmpI l x)]) (cellsRes true b0 3 ((l.map (fun t : Int => [int t])).flatten ++ sp.map is)) (fun _ => cellsRes true b0 3 ((l.map (fun t : Int => [int t])).flatten ++ sp.map is)) := by
 refine FunM.of Tryz.func114 rfl rfl (by exact Nat.le_of_ble_eq_true rfl) fun M0 w0 S rs M1 w1 => ?_
 refine Tr.seq (Tr.reg0 (cm rfl (cm rfl (Ch.nil (Fin.go (Tr.seq (Tr.reg0 (cm rfl (co rfl (okb_len rfl Tryz.underlying22 ⟨_, rfl, andIs_is _ _⟩) (cm rfl (Ch.nil (Fin.go (Tr.seq (Tr.reg0 ?_))))))))))))))
 refine cm rfl (cm rfl (cm rfl (Ch.nil (Fin.go (Tr.seq (Tr.block ?_))))))
 refine Tr.loopD2V0 [(0, _), (1, _), (6, _)] ⟨ke rfl, ke rfl, ke rfl, trivial⟩ (fun (i : Nat) (j : Nat) => [(7, int ((i : Nat) : Int)), (8, int ((j : Nat) : Int))]) (fun (i : Nat) (j : Nat) => Hp M0 w0 S (cellsRes true b0 3 ((l.map (fun t : Int => [int t])).flatten ++ sp.map is) :: extRes M1 w1 :: rs)) (fun (i : Nat) (j : Nat) => i ≤ j ∧ j ≤ l.length ∧ (∀ (k : Nat) y, k < i → l[k]? = some y → cmpI y x < 0) ∧ (∀ (k : Nat) y, j ≤ k → l[k]? = some y → ¬ cmpI y x < 0)) (fun (i : Nat) (j : Nat) => j - i) (0) (l.length)  (⟨Nat.zero_le _, Nat.le_refl _, fun k y h => absurd h (Nat.not_lt_zero _), fun k y h1 h2 => by rw [List.getElem?_eq_none h1] at h2; cases h2⟩) ⟨ke rfl, ke rfl, trivial⟩ (fun _ _ h => h) ?_
 rintro i j  ⟨hi1, hi2, hi3, hi4⟩
 refine Tr.seq (Tr.seq (Tr.reg0 (cm rfl (cm rfl (co rfl (ki rfl rfl rfl rfl) (Ch.nil (Fin.go ?_)))))))
 refine Tr.cn rfl ?_ ?_ <;> intro h1 q1
 have hij : i < j := by have := of_decide_eq_true h1; omega
 obtain ⟨y, hyn⟩ := at_ (l := l) (k := (i + j) / 2) (by omega)
 have hy : l[((((i : Nat) : Int) + ((j : Nat) : Int)) / 2).toNat]? = some y := by rw [show ((((i : Nat) : Int) + ((j : Nat) : Int)) / 2).toNat = (i + j) / 2 by omega]; exact hyn
 refine Tr.skip (Fin.go (Tr.block (Tr.seq (Tr.reg0 (cm rfl (cm rfl (cad rfl rfl rfl rfl (by omega) (co rfl (ok_convU rfl Tryz.underlying3 Tryz.underlying150 (vl rfl) (by omega) (by omega)) (co rfl (ok_half rfl (vl rfl) (vl rfl) (by omega)) ?_)))))))))
 refine co rfl (ok_convI rfl Tryz.underlying150 Tryz.underlying3 (vl rfl) (by unfold InI; omega)) ?_
 refine cm rfl (Ch.nil (Fin.go (wk6 0 1 6 7 8 9 rfl (Tr.seq (Tr.reg0 (cm rfl (cm rfl (co rfl (okp_indexSl rfl Tryz.underlying22 sz3 ⟨_, rfl, andIs_is _ _⟩ (vl rfl) (by omega) (by omega)) (co rfl (ok_rd 0 rfl (rd_load1 rfl one3 (vl rfl) (cell1_at (f := fun t : Int => [int t]) (fun _ => rfl) (i := (((i : Nat) : Int) + ((j : Nat) : Int)) / 2) hy rfl))) (cm rfl (co rfl (ok_call rfl (w_lessI) ⟨ke rfl, ke rfl, trivial⟩) (Ch.nil (Fin.go ?_)))))))))))))
 refine Tr.cn rfl ?_ ?_ <;> intro h2 q2
 have hlt := q2
 refine Tr.reg0 (cm rfl (cad rfl rfl rfl rfl (by omega) (cm rfl (Ch.nil (Fin.block ?_)))))
 exact Fin.famD2V0 ((i + j) / 2 + 1) (j)  (⟨⟨by omega, by omega, bs_lt cmp_int hs hyn (by unfold cmpI; rw [if_pos (by omega)]; omega), hi4⟩, by omega⟩) ⟨⟨_, rfl, int_eq (by omega)⟩, ⟨_, rfl, int_eq (by omega)⟩, ke rfl, ke rfl, ke rfl, trivial⟩ (fun _ _ h => h)
 have hlt := q2
 refine Tr.reg0 (cm rfl (cm rfl (Ch.nil (Fin.block ?_))))
 exact Fin.famD2V0 (i) ((i + j) / 2)  (⟨⟨by omega, by omega, hi3, bs_ge cmp_int hs hyn (by unfold cmpI; rw [if_neg (by omega)]; split <;> omega)⟩, by omega⟩) ⟨⟨_, rfl, int_eq (by omega)⟩, ⟨_, rfl, int_eq (by omega)⟩, ke rfl, ke rfl, ke rfl, trivial⟩ (fun _ _ h => h)
 obtain rfl : i = j := (by have := of_decide_eq_false h1; omega)
 have hp : posC cmpI l x = i := posC_eq (by omega) hi3 (fun y hy => hi4 i y (by omega) hy)
 refine Tr.exit (Fin.then_exit (Fin.then_exit (Fin.block_here (Fin.go (Tr.seq (Tr.reg0 (cm rfl (cm rfl (cm rfl (co rfl (ki rfl rfl rfl rfl) (cm rfl ?_)))))))))))
 refine Ch.cs 35 rfl ?_ ?_ <;> intro h3 q3
 obtain ⟨y, hyi⟩ := at_ (l := l) (k := i) (by omega)
 refine cym h3 rfl (cym h3 rfl (cy h3 rfl (okp_indexSl rfl Tryz.underlying22 sz3 ⟨_, rfl, andIs_is _ _⟩ (vl rfl) (by omega) (by omega)) ?_))
 refine cy h3 rfl (ok_rd 0 rfl (rd_load1 rfl one3 (vl rfl) (cell1_at (f := fun t : Int => [int t]) (fun _ => rfl) (i := ((i : Nat) : Int)) (by rw [Int.toNat_natCast]; exact hyi) rfl))) ?_
 refine cym h3 rfl (cy h3 rfl (ki rfl rfl rfl rfl) (cym h3 rfl ?_))
 refine Ch.cs 42 rfl ?_ ?_ <;> intro h4 q4
 iterate 6 refine cnf h4 rfl ?_
 refine cu rfl (cu rfl (cnf h4 rfl (cy h3 rfl (kpt rfl rfl h4 rfl) (co rfl (kpt rfl rfl h3 rfl) (cm rfl (cm rfl (Ch.nil (Fin.go (wk2 4 5 rfl (Tr.ret (Fin.retM2 rfl rfl ?_ rfl ?_)))))))))))
 · exact int_eq (by rw [hp])
 · refine bool_eq ?_; rw [hasC_at hp hyi]; symm; rw [decide_eq_true_eq]; exact cmpI_zero.2 (by simp_all)
 refine cym h4 rfl (cym h4 rfl (cy h4 rfl (okp_indexSl rfl Tryz.underlying22 sz3 ⟨_, rfl, andIs_is _ _⟩ (vl rfl) (by omega) (by omega)) ?_))
 refine cy h4 rfl (ok_rd 0 rfl (rd_load1 rfl one3 (vl rfl) (cell1_at (f := fun t : Int => [int t]) (fun _ => rfl) (i := ((i : Nat) : Int)) (by rw [Int.toNat_natCast]; exact hyi) rfl))) ?_
 refine cy h4 rfl (ok_call rfl (w_SisNaNi) ⟨ke rfl, trivial⟩) (cym h4 rfl ?_)
 refine Ch.cs 48 rfl ?_ ?_ <;> intro h5 q5
 exact absurd h5 (by decide)
 refine cnt h5 rfl (cnt h5 rfl (cy h4 rfl (kpf rfl rfl h5 rfl) (cy h3 rfl (kpf rfl rfl h4 rfl) (co rfl (kpt rfl rfl h3 rfl) (cm rfl (cm rfl (Ch.nil (Fin.go (wk2 4 5 rfl (Tr.ret (Fin.retM2 rfl rfl ?_ rfl ?_)))))))))))
 · exact int_eq (by rw [hp])
 · refine bool_eq ?_; rw [hasC_at hp hyi]; symm; rw [decide_eq_false_iff_not]; intro h0; have := cmpI_zero.1 h0; simp_all
 iterate 7 refine cnt h3 rfl ?_
 iterate 9 refine cu rfl ?_
 refine cnt h3 rfl (co rfl (kpf rfl rfl h3 rfl) (cm rfl (cm rfl (Ch.nil (Fin.go (wk2 4 5 rfl (Tr.ret (Fin.retM2 rfl rfl ?_ rfl ?_))))))))
 · exact int_eq (by rw [hp])
 · refine bool_eq ?_; rw [hasC_end hp (by omega)]
theorem e_BSBi : Entry Tryz.prog 114 := ⟨_, Tryz.func114, rfl, rfl⟩
set_option maxRecDepth 20000 in
theorem w_BSNi {x : Int}  : Fun Tryz.prog 114 [is (.slice none 0 0), int x] (tup [int 0, bool false]) := by
 refine Fun.of Tryz.func114 rfl rfl (by exact Nat.le_of_ble_eq_true rfl) fun M0 w0 => ?_
 refine Tr.seq (Tr.reg0 (cm rfl (cm rfl (Ch.nil (Fin.go (Tr.seq (Tr.reg0 (cm rfl (co rfl (ok_lennil rfl Tryz.underlying22 (vl rfl)) (cm rfl (Ch.nil (Fin.go (Tr.seq (Tr.reg0 ?_))))))))))))))
 refine cm rfl (cm rfl (cm rfl (Ch.nil (Fin.go (Tr.seq (Tr.block (Tr.loopw [(0, _), (1, _), (6, _)] (kk3 rfl) (fun (u : Unit) => [(7, int 0), (8, int 0)]) (fun (u : Unit) => True) (fun (u : Unit) => 0) () (trivial) ⟨ke rfl, ke rfl, trivial⟩ ?_)))))))
 rintro u _
 refine Tr.seq (Tr.seq (Tr.reg0 (cm rfl (cm rfl (co rfl (ki rfl rfl rfl rfl) (Ch.nil (Fin.go ?_)))))))
 refine Tr.cn rfl ?_ ?_ <;> intro h1 q1
 exact absurd h1 (by decide)
 have := h1
 refine Tr.exit (Fin.then_exit (Fin.then_exit (Fin.block_here (Fin.go (Tr.seq (Tr.reg0 (cm rfl (cm rfl (cm rfl (co rfl (ki rfl rfl rfl rfl) (cm rfl ?_)))))))))))
 refine Ch.cs 35 rfl ?_ ?_ <;> intro h2 q2
 exact absurd h2 (by decide)
 iterate 7 refine cnt h2 rfl ?_
 iterate 9 refine cu rfl ?_
 refine cnt h2 rfl (co rfl (kpf rfl rfl h2 rfl) (cm rfl (cm rfl (Ch.nil (Fin.go (wk2 4 5 rfl (Tr.ret (Fin.ret2 rfl (OutW.bse _ _) rfl ?_ rfl ?_))))))))
 · exact Pr.le_refl _
 · exact Pr.le_refl _
theorem w_BSi {l : List (Int)} {x : Int} {v : Value} {p : Pr} (hs : AscC cmpI l) (hl : l.length ≤ 1000000) : FunM Tryz.prog 114 [andIs v p, int x] (tup [int ((posC cmpI l x : Nat) : Int), bool (hasC cmpI l x)]) (ownRes 3 1 (l.map (fun t : Int => [int t])) v) (fun _ => ownRes 3 1 (l.map (fun t : Int => [int t])) v) := by
  refine FunM.own_read e_BSBi (fun h0 _ => ?_) (fun b cap sp _ hc hm hq => ?_)
  · have hl0 : l = [] := by simpa using h0
    subst hl0; exact w_BSNi
  · rw [List.length_map]
    rw [List.length_map] at hc
    exact w_BSBi hs hl hc

set_option maxRecDepth 20000 in
set_option maxHeartbeats 1000000 in
theorem w_InsBi {l : List (Int)} {x : Int} {b0 cap i : Nat} {sp : List Value} (hi : i ≤ l.length) (hl : l.length ≤ 1000000) (hc : l.length ≤ cap) (hm : cap ≤ maxLen) (hq : sp.length = cap - l.length) : FunM Tryz.prog 115 [andIs (.slice (some ⟨b0, 0, none⟩) l.length cap) (lens l.length), int ((i : Nat) : Int), slice 1 [[int x]]] (lens (l.length + 1)) (cellsRes true b0 3 ((l.map (fun t : Int => [int t])).flatten ++ sp.map is)) (fun v => ownRes 3 1 ((l.take i ++ [x] ++ l.drop i).map (fun t : Int => [int t])) v) := by
 refine FunM.of Tryz.func115 rfl rfl (by exact Nat.le_of_ble_eq_true rfl) fun M0 w0 S rs M1 w1 => ?_
 have hv2 : ([[int x]] : List (List Pr)).flatten.length = 1 := rfl
 have hv1 : ([[int x]] : List (List Pr)).length = 1 := rfl
 have hAl : ((l.map (fun t : Int => [int t])).flatten).length = l.length := by rw [flat_len (sz := 1) (map_rows fun _ => rfl), List.length_map]; omega
 have e1 : (((i : Nat) : Int) + (1 : Int)).toNat = i + 1 := by omega
 have e2 : ((i : Nat) : Int).toNat = i := by omega
 refine Tr.seq (Tr.reg0 (cm rfl (Ch.nil (Fin.go (Tr.seq (Tr.reg0 (cm rfl (cm rfl (co rfl (okb_sliceAny rfl Tryz.underlying22 sz3 ⟨_, rfl, andIs_is _ _⟩ (vl rfl) (by omega) (by omega) (by omega)) (Ch.nil (Fin.go (Tr.seq (Tr.reg0 ?_)))))))))))))
 refine cm rfl (co rfl (ok_len rfl Tryz.underlying22 (vl rfl)) (cm rfl (Ch.nil (Fin.go (Tr.seq (Tr.seq (Tr.reg0 (cm rfl (co rfl (ki rfl rfl rfl rfl) (Ch.nil (Fin.go ?_)))))))))))
 refine Tr.cn rfl ?_ ?_ <;> intro h1 q1
 simp at h1
 refine Tr.skip (Fin.go (Tr.seq (Tr.reg0 (cm rfl (co rfl (okb_len rfl Tryz.underlying22 ⟨_, rfl, andIs_is _ _⟩) (cm rfl (Ch.nil (Fin.go (Tr.seq (Tr.seq (Tr.reg0 (cm rfl (cm rfl ?_)))))))))))))
 refine co rfl (ki rfl rfl rfl rfl) (Ch.nil (Fin.go (wk6 0 1 2 7 8 22 rfl ?_)))
 refine Tr.cn rfl ?_ ?_ <;> intro h2 q2
 refine Tr.seq (Tr.closeG (sz := 1) 0 rfl (rows := l.map (fun t : Int => [int t])) (sp := sp) rfl (by simp) hc hm (by omega) (Tr.regT (tm rfl (tm rfl ?_))))
 refine TO.efs 0 rfl rfl (by decide) (ef_appmut rfl rfl (by decide) rfl Tryz.underlying22 sz3 by3 z3 rfl (by decide) (by decide) (vl rfl) (vl rfl) (map_rows fun _ => rfl) (Nat.zero_lt_succ _) (by simp only [List.length_map, List.length_cons, List.length_nil]; unfold maxLen; omega) (by simp only [List.length_map, List.length_cons, List.length_nil]; omega)) (fun v1 => ?_)
 refine tm rfl (TO.nil (Fin.go (Tr.ret (Fin.then_ret ?_))))
 refine Fin.retM1 rfl rfl ?_ (by rintro _ _ _ ⟨rfl, _⟩; rw [show i = l.length by omega, List.take_length, List.drop_length, List.append_nil, List.map_append]; rfl)
 · exact Pr.le_trans (andIs_le _ _) (Pr.le_of_eq (by simp))
 refine Tr.skip (Fin.go (Tr.seq (Tr.seq (Tr.reg0 (cm rfl (cm rfl (cad rfl rfl rfl rfl (by omega) (cm rfl (co rfl (okb_cap rfl Tryz.underlying22 ⟨_, rfl, andIs_is _ _⟩) (co rfl (ki rfl rfl rfl rfl) (Ch.nil (Fin.go ?_))))))))))))
 refine Tr.cn rfl ?_ ?_ <;> intro h3 q3
 refine Tr.seq (Tr.regT (tm rfl (tm rfl (tp rfl (okb_sliceTo rfl Tryz.underlying22 sz3 ⟨_, rfl, andIs_is _ _⟩ (vl rfl) (by omega) (by omega) (by omega) (by omega)) (tm rfl (tm rfl ?_))))))
 refine tp rfl (ok_add rfl (vl rfl) (vl rfl) ?hin) ?_; case hin => unfold InI; omega
 refine tm rfl ?_
 refine tp rfl (ok_sub rfl (vl rfl) (vl rfl) ?hin) ?_; case hin => unfold InI; omega
 refine TO.pad ?_
 refine TO.appzs 0 1 rfl rfl rfl rfl (by decide) rfl Tryz.underlying22 Tryz.underlying3 sz3 by3 z3 rfl (by decide) (by decide) (vl rfl) (vl rfl) (i := i) (k := l.length + 1 - i) (by omega) (by simp only [List.length_append, List.length_take, List.length_drop, List.length_map, hAl, hv1, hv2, Nat.mul_one]; omega) (by omega) (by omega) (by unfold maxLen; omega) (by omega) (fun b1 cap1 sp1 hg1 hm1 hs1 => ?_)
 refine tm rfl (TO.nil (Fin.go (wk5 0 1 2 7 9 rfl (Tr.seq ?_))))
 have hsz : sp1.length = cap1 - i := by have := hs1; rw [List.length_take, List.length_append, hAl, Nat.mul_one, Nat.mul_one] at this; omega
 refine Tr.frzS (sz := 1) (l.map (fun t : Int => [int t])) 1 0 rfl rfl (Pr.le_trans (andIs_is _ _) (Pr.le_of_eq (by simp))) (map_rows fun _ => rfl) (by rw [List.length_map]; exact hc) hm (by rw [List.length_map, List.length_map]; omega) ?_
 refine Tr.regT (tm rfl (tm rfl (tp rfl (okb_sliceFrom rfl Tryz.underlying22 sz3 (vl rfl) (vl rfl) (by omega) (by omega) (by omega)) (tm rfl ?_))))
 refine TO.efc 0 rfl rfl (by decide) (ef_copyS rfl rfl rfl Tryz.underlying22 sz3 (by decide) (vl rfl) (vl rfl) (by omega) (by omega) (by simp only [List.length_append, List.length_take, List.length_drop, List.length_map, hAl, hv1, hv2, Nat.mul_one]; omega) rfl) ?_
 refine TO.nil (Fin.go (Tr.seq (Tr.regX mixed [none, none, none, none, none, none, none, none, some (0, 0, true, 0)] (by kernel_rfl) (xm rfl (xm rfl (xm rfl ?_))))))
 refine xo rfl (fun _ => ok_add rfl (vl rfl) (vl rfl) ?hin) ?_; case hin => unfold InI; omega
 refine xo rfl (fun _ => okb_sliceFrom rfl Tryz.underlying22 sz3 (vl rfl) (vl rfl) (by omega) (by omega) (by omega)) (xm rfl (xm rfl ?_))
 refine xo rfl (fun _ => ok_sliceFrom rfl Tryz.underlying22 sz3 ⟨_, rfl, andIs_le _ _⟩ (vl rfl) (by omega) (by simp; omega)) ?_
 refine Cx.ef 0 rfl rfl (by decide) (ef_copyS rfl rfl rfl Tryz.underlying22 sz3 (by decide) (vl rfl) (vl rfl) (by simp only [List.length_append, List.length_take, List.length_drop, List.length_map, hAl, hv1, hv2, Nat.mul_one]; omega) (by simp only [List.length_append, List.length_take, List.length_drop, List.length_map, hAl, hv1, hv2, Nat.mul_one]; omega) (by simp only [List.length_append, List.length_take, List.length_drop, List.length_map, hAl, hv1, hv2, Nat.mul_one]; omega) rfl) ?_
 refine Cx.nil ⟨rfl, ?_⟩
 refine FinX.done (AllC.cons (AllC.cons (AllC.cons (AllC.map _)))) (Fin.go (wk1 9 rfl (Tr.seq (Tr.reg0 (cm rfl (cm rfl (Ch.nil (Fin.go (Tr.ret (Fin.then_ret ?_))))))))))
 refine Fin.closeH (sz := 1) 0 rfl (rows := ((l.take i ++ [x] ++ l.drop i).map (fun t : Int => [int t]))) (sp := sp1.drop (l.length + 1 - i)) (m := i + (l.length + 1 - i)) (ins_grown2 (i := i) (Z := sp1.map is) (n := l.length) hAl (by omega) (by rw [List.length_map]; omega) (by omega) (by omega) (by omega) (by omega) (by rw [List.length_drop, List.length_map]; omega) rfl (by rw [← List.map_drop, flat_drop1 (f := fun t : Int => [int t]) (fun _ => rfl), e2]) (by rw [List.map_drop, ← flat_ins (f := fun t : Int => [int t]) (l := l) (i := i) (x := x) (fun _ => rfl) rfl])) (by simp only [List.length_map, List.length_append, List.length_take, List.length_drop, List.length_cons, List.length_nil]; omega) (by omega) hm1 (by rw [List.length_drop]; omega) ?_
 refine Fin.drop 1 ?_
 refine Fin.retM1 rfl rfl ?_ (by rintro _ _ _ rfl; rfl)
 · rintro _ _ _ rfl; exact ⟨_, _, by congr 1; omega⟩
 refine Tr.skip (Fin.go (Tr.seq (Tr.reg0 (cm rfl (cm rfl (cm rfl (cad rfl rfl rfl rfl (by omega) (co rfl (okb_sliceCap rfl Tryz.underlying22 sz3 ⟨_, rfl, andIs_is _ _⟩ (vl rfl) (by omega) (by omega) (by omega)) (cm rfl (Ch.nil (Fin.go (wk5 0 1 2 7 8 rfl (Tr.seq (Tr.seq ?_))))))))))))))
 refine Tr.regT ?_
 iterate 4 refine tm rfl ?_
 refine tp rfl (ok_add rfl (vl rfl) (vl rfl) ?hin) ?_; case hin => unfold InI; omega
 refine tp rfl (okb_sliceFrom rfl Tryz.underlying22 sz3 (vl rfl) (vl rfl) (by omega) (by omega) (by omega)) ?_
 refine TO.rd 0 rfl rfl rfl (by decide) (rd_overlaps (tR := 4) rfl Tryz.func170 (by kernel_rfl) (by kernel_rfl) (by kernel_rfl) (by kernel_rfl) Tryz.underlying22 sz3 (by decide) (vl rfl) (by exact Nat.zero_lt_succ _) (vl rfl) (by simp only [List.length_append, List.length_take, List.length_drop, List.length_map, hAl, hv1, hv2, Nat.mul_one]; omega)) ?_
 refine tp rfl (ok_not rfl (vl rfl)) (TO.nil (Fin.go ?_))
 refine Tr.cn rfl ?_ ?_ <;> intro h4 q4
 refine Tr.seq (Tr.regX mixed [none, none, none, none, none, none, none, none, some (0, 0, true, 0)] (by kernel_rfl) (xm rfl (xm rfl (xm rfl ?_))))
 refine xo rfl (fun _ => ok_add rfl (vl rfl) (vl rfl) ?hin) ?_; case hin => unfold InI; omega
 refine xo rfl (fun _ => okb_sliceFrom rfl Tryz.underlying22 sz3 (vl rfl) (vl rfl) (by omega) (by omega) (by omega)) (xm rfl (xm rfl (xo rfl (fun _ => okb_sliceFrom rfl Tryz.underlying22 sz3 (vl rfl) (vl rfl) (by omega) (by omega) (by omega)) ?_)))
 refine Cx.ef 0 rfl rfl (by decide) (ef_copyB (m := l.length - i) rfl rfl rfl Tryz.underlying22 sz3 (vl rfl) (vl rfl) (by show _ = min _ _; omega) (by simp only [List.length_append, List.length_take, List.length_drop, List.length_map, hAl, hv1, hv2, Nat.mul_one]; omega) (by simp only [List.length_append, List.length_take, List.length_drop, List.length_map, hAl, hv1, hv2, Nat.mul_one]; omega) rfl) ?_
 refine Cx.nil ⟨rfl, ?_⟩
 refine FinX.done (AllC.cons (AllC.cons (AllC.map _))) (Fin.go (wk3 0 1 2 rfl (Tr.seq (Tr.regT (tm rfl (tm rfl (tp rfl (okb_sliceFrom rfl Tryz.underlying22 sz3 (vl rfl) (vl rfl) (by omega) (by omega) (by omega)) (tm rfl ?_))))))))
 refine TO.efc 0 rfl rfl (by decide) (ef_copyS rfl rfl rfl Tryz.underlying22 sz3 (by decide) (vl rfl) (vl rfl) (by omega) (by omega) (by simp only [List.length_append, List.length_take, List.length_drop, List.length_map, hAl, hv1, hv2, Nat.mul_one]; omega) rfl) ?_
 refine TO.nil (Fin.go (Tr.seq (Tr.reg0 (cm rfl (cm rfl (Ch.nil (Fin.go (Tr.ret (Fin.then_ret ?_)))))))))
 refine Fin.closeH (sz := 1) 0 rfl (rows := ((l.take i ++ [x] ++ l.drop i).map (fun t : Int => [int t]))) (sp := sp.drop 1) (m := l.length + 1) (ins_place2 (i := i) (S := sp.map is) (n := l.length) hAl (by omega) (by rw [List.length_map]; omega) (by omega) (by omega) (by omega) (by omega) (by omega) (by omega) rfl (by rw [List.map_drop, ← flat_ins (f := fun t : Int => [int t]) (l := l) (i := i) (x := x) (fun _ => rfl) rfl])) (by simp only [List.length_map, List.length_append, List.length_take, List.length_drop, List.length_cons, List.length_nil]; omega) (by omega) hm (by rw [List.length_drop]; omega) ?_
 refine Fin.retM1 rfl rfl ?_ (by rintro _ _ _ rfl; rfl)
 · rintro _ _ _ rfl; exact ⟨_, _, by rfl⟩
 exact absurd h4 (by decide)
theorem e_InsBi : Entry Tryz.prog 115 := ⟨_, Tryz.func115, rfl, rfl⟩
set_option maxRecDepth 20000 in
theorem w_InsNi {x : Int}  : FunM Tryz.prog 115 [is (.slice none 0 0), int ((0 : Nat) : Int), slice 1 [[int x]]] (lens 1) (noRes) (fun v => mutRes 3 1 [[int x]] v) := by
 refine FunM.of Tryz.func115 rfl rfl (by exact Nat.le_of_ble_eq_true rfl) fun M0 w0 S rs M1 w1 => ?_
 have hv1 : ([[int x]] : List (List Pr)).length = 1 := rfl
 refine Tr.seq (Tr.reg0 (cm rfl (Ch.nil (Fin.go (Tr.seq (Tr.reg0 (cm rfl (cm rfl (co rfl (ok_sliceFrom rfl Tryz.underlying22 sz3 ⟨_, rfl, nil_slice _⟩ (vl rfl) (by omega) (by omega)) (Ch.nil (Fin.go (Tr.seq (Tr.reg0 ?_)))))))))))))
 refine cm rfl (co rfl (ok_len rfl Tryz.underlying22 (vl rfl)) (cm rfl (Ch.nil (Fin.go (Tr.seq (Tr.seq (Tr.reg0 (cm rfl (co rfl (ki rfl rfl rfl rfl) (Ch.nil (Fin.go ?_)))))))))))
 refine Tr.cn rfl ?_ ?_ <;> intro h1 q1
 simp at h1
 refine Tr.skip (Fin.go (Tr.seq (Tr.reg0 (cm rfl (co rfl (ok_lennil rfl Tryz.underlying22 (vl rfl)) (cm rfl (Ch.nil (Fin.go (Tr.seq (Tr.seq (Tr.reg0 (cm rfl (cm rfl ?_)))))))))))))
 refine co rfl (ki rfl rfl rfl rfl) (Ch.nil (Fin.go (wk6 0 1 2 7 8 22 rfl ?_)))
 refine Tr.cn rfl ?_ ?_ <;> intro h2 q2
 refine Tr.seq (Tr.regT (tm rfl (tm rfl (TO.pad ?_))))
 refine TO.efs 0 rfl rfl (by decide) (ef_appvoid rfl rfl (by decide) rfl Tryz.underlying22 sz3 by3 z3 rfl (by decide) (by decide) ⟨_, rfl, nil_full 1⟩ (vl rfl) (by simp) (by simp; unfold maxLen; omega) (by simp)) (fun v1 => ?_)
 refine tm rfl (TO.nil (Fin.go (Tr.ret (Fin.then_ret (Fin.drop 1 ?_)))))
 refine Fin.retM1 rfl rfl ?_ (by intro _ _ _ h; rw [h.1])
 · exact Pr.le_trans (andIs_le _ _) (Pr.le_refl _)
 exact absurd h2 (by decide)
theorem w_Insi {l : List (Int)} {x : Int} {v : Value} {p : Pr} {i : Nat} (hi : i ≤ l.length) (hl : l.length ≤ 1000000) : FunM Tryz.prog 115 [andIs v p, int ((i : Nat) : Int), slice 1 [[int x]]] (lens (l.length + 1)) (ownRes 3 1 (l.map (fun t : Int => [int t])) v) (fun v => ownRes 3 1 ((l.take i ++ [x] ++ l.drop i).map (fun t : Int => [int t])) v) := by
  refine FunM.own_cases e_InsBi (fun h0 _ => ?_) (fun b cap sp _ hc hm hq => ?_)
  · have hl0 : l = [] := by simpa using h0
    subst hl0
    have hi0 : i = 0 := by simpa using hi
    subst hi0
    exact FunM.own_of_mut w_InsNi
  · rw [List.length_map] at hc hq ⊢
    exact w_InsBi hi hl hc hm (by omega)
set_option maxRecDepth 20000 in
theorem w_insi {l : List (Int)} {x : Int} {v : Value} (hs : AscC cmpI l) (hl : l.length ≤ 1000000) : FunM Tryz.prog 63 [andIs v (lens l.length), int x] (lens (insC cmpI l x).length) (ownRes 3 1 (l.map (fun t : Int => [int t])) v) (fun v => ownRes 3 1 ((insC cmpI l x).map (fun t : Int => [int t])) v) := by
 refine FunM.of Tryz.func63 rfl rfl (by exact Nat.le_of_ble_eq_true rfl) fun M0 w0 S rs M1 w1 => ?_
 refine Tr.seq (Tr.reg0 (cm rfl (Ch.nil (Fin.go (Tr.seq (Tr.regT (tm rfl (tm rfl ?_))))))))
 refine TO.efc 0 rfl rfl (by decide) (ef_callc rfl rfl (by decide) rfl (w_BSi (l := l) (x := x) hs hl) ⟨ke rfl, ke rfl, trivial⟩) ?_
 refine tm rfl (tp rfl (ok_extract rfl (vl rfl) rfl) (tp rfl (ok_extract rfl (vl rfl) rfl) (tm rfl (tm rfl (TO.nil (Fin.go (Tr.seq (Tr.seq (Tr.reg0 (cm rfl (Ch.nil (Fin.go ?_))))))))))))
 refine Tr.cn rfl ?_ ?_ <;> intro h1 q1
 have hE := insC_has (c := cmpI) (l := l) (x := x) h1
 refine Tr.seq (Tr.reg0 (cm rfl (cm rfl (Ch.nil (Fin.go (Tr.ret (Fin.then_ret ?_)))))))
 refine Fin.retM1 rfl rfl ?_ (by rintro _ _ _ ⟨rfl, _⟩; rw [hE])
 · rw [hE]; exact andIs_le _ _
 have hE := insC_not (c := cmpI) (l := l) (x := x) h1
 have hp := posC_le cmpI l x
 refine Tr.skip (Fin.go (Tr.seq (Tr.regT (tm rfl (tm rfl (tm rfl (tp rfl (ok_buildSlice (xs := [.tmp 17]) (rows := [[_]]) rfl rfl Tryz.underlying22 sz3 z3 rfl (by decide) ⟨⟨(by exact rfl), (VL.le (vl rfl) (one_cellsP _))⟩, trivial⟩ (by decide)) ?_)))))))
 refine TO.efs 0 rfl rfl (by decide) (ef_call rfl rfl (by decide) rfl (w_Insi (l := l) (x := x) (i := posC cmpI l x) (posC_le _ _ _) hl) ⟨ke rfl, ke rfl, ⟨_, rfl, full_le _ _⟩, trivial⟩) (fun v1 => ?_)
 refine tm rfl (TO.nil (Fin.go (wk1 4 rfl (Tr.ret ?_))))
 refine Fin.retM1 rfl rfl ?_ (by rintro _ _ _ ⟨rfl, _⟩; rw [hE])
 · rw [hE]; exact Pr.le_trans (andIs_le _ _) (Pr.le_of_eq (by congr 1; simp; omega))
end Go.Proofs.YtgdlhajfajddiaaGreat
namespace Cp
open Go Go.RowKit Go.Great
section
variable {P : Program} {n : Nat} {E : Env} {M0 : Av} {w0 : World} {S : Nat → Prop} {o : Oper}
/-- A block of which one cell hangs on a slot, and then another one on another. -/
def twoF (new : Bool) (b : Nat) (T : TypeId) (off : Nat) (p : Pr) (ps : Value → List Pr) (u : Value) : Res := match u with
  | .tuple t => cellsRes new b T ((ps (t.getD 0 undef)).take off ++ [andIs (t.getD 1 undef) p] ++ (ps (t.getD 0 undef)).drop (off + 1))
  | _ => noRes
theorem ef_storeT {t : TypeId} {x : Operand} {q0 q : Tmp} {j : Nat} {new : Bool} {b off : Nat} {T : TypeId} {ps : Value → List Pr} {p : Pr} [One p] (hg : o.guard = none) (hd : o.dst = none) (ho : o.op = .store t x (.tmp q)) (hx : VL E x (ptr b off)) (hy : E.lookup q = some p)
    (hz : sizeB P t = some 1) (hl : ∀ v, off + 1 ≤ (ps v).length) : OpEf P M0 w0 S n j ⟨.one q0, fun v => cellsRes new b T (ps v)⟩ ⟨.two q0 q, twoF new b T off p ps⟩ o E any := by
  refine ⟨hg, fun M w a rs hsz he hI hj => ?_⟩
  have hj' : rs[j]? = some (SR.at_ a (SR.c (cellsRes new b T (ps (a.tmps.getD q0 undef))))) := hj
  obtain ⟨h1, h2⟩ := ef_storeS (P := P) (M0 := M0) (w0 := w0) (S := S) (n := n) (j := j) (new := new) (T := T) (ps := ps (a.tmps.getD q0 undef)) (b := b) (off := off) hg hd ho hx hy hz (hl _)
  have h3 := h2 M w a rs hsz he hI hj'
  revert h3
  generalize (execOp a.eval o).run P w = r
  have key : ∀ v, SR.at_ (a.put o.dst v) ⟨.one q, fun v => cellsRes new b T ((ps (a.tmps.getD q0 undef)).take off ++ [andIs v p] ++ (ps (a.tmps.getD q0 undef)).drop (off + 1))⟩ = SR.at_ (a.put o.dst v) ⟨.two q0 q, twoF new b T off p ps⟩ := fun v => by rw [hd]; rfl
  intro h3
  cases r with
  | halt x w' => exact h3
  | ok x w' =>
    cases x
    case value v => obtain ⟨M', g1, g2, g3⟩ := h3; exact ⟨M', g1, g2, by rw [← key]; exact g3⟩
    case skip => obtain ⟨M', g1, g2, g3⟩ := h3; exact ⟨M', g1, g2, by rw [← key]; exact g3⟩
    case enter f args =>
      refine Calls.mono h3 ?_
      rintro e w'' ⟨v, M', g0, g1, g2, g3⟩
      exact ⟨v, M', g0, g1, g2, by rw [← key]; exact g3⟩
    all_goals exact h3
/-- Two slots are named: two resources that hang on one each, and one that hangs on both. -/
theorem FinX.open3 {Q : Exit → Act → World → Prop} {rs : List SR} (j1 j2 i s t : Nat) {f g : Value → Res} {new : Bool} {b off : Nat} {T : TypeId} {ps : Value → List Pr} {p q r : Pr} (h1 : rs[j1]? = some ⟨.one s, f⟩) (h2 : rs[j2]? = some ⟨.one t, g⟩) (h3 : rs[i]? = some ⟨.two s t, twoF new b T off r ps⟩) (h12 : j1 ≠ j2) (h13 : j1 ≠ i) (h23 : j2 ≠ i) (hst : s ≠ t) (hs : E.lookup s = some p) (ht : E.lookup t = some q)
    (k : ∀ v u, FinX n M0 w0 S ((t, andIs u q) :: (s, andIs v p) :: E) (((rs.set j1 (SR.c (f v))).set j2 (SR.c (g u))).set i (SR.c (cellsRes new b T ((ps v).take off ++ [andIs u r] ++ (ps v).drop (off + 1))))) Q) : FinX n M0 w0 S E rs Q := by
  rintro a w ⟨M, g1, g2, g3, g4⟩
  refine k (a.tmps.getD s undef) (a.tmps.getD t undef) a w ⟨M, g1, g2, ?_, ?_⟩
  · intro c z hz
    simp only [List.lookup] at hz
    by_cases hct : c = t
    · subst hct; simp only [beq_self_eq_true, Option.some.injEq] at hz; subst hz; exact ⟨rfl, g3 c q ht⟩
    · rw [show (c == t) = false by simpa using hct] at hz
      by_cases hcs : c = s
      · subst hcs; simp only [beq_self_eq_true, Option.some.injEq] at hz; subst hz; exact ⟨rfl, g3 c p hs⟩
      · rw [show (c == s) = false by simpa using hcs] at hz; exact g3 c z hz
  · have e1 := set_at h1 a
    have e2 := set_at (rs := rs.set j1 (SR.c (f (a.tmps.getD s undef)))) (j := j2) (s := t) (f := g) (by rw [List.getElem?_set, if_neg h12]; exact h2) a
    have h3' : ((rs.set j1 (SR.c (f (a.tmps.getD s undef)))).set j2 (SR.c (g (a.tmps.getD t undef))))[i]? = some ⟨.two s t, twoF new b T off r ps⟩ := by
      rw [List.getElem?_set, if_neg h23, List.getElem?_set, if_neg h13]; exact h3
    rw [List.map_set, e2, e1]
    have e3 : (rs.map (·.at_ a)).set i (cellsRes new b T ((ps (a.tmps.getD s undef)).take off ++ [andIs (a.tmps.getD t undef) r] ++ (ps (a.tmps.getD s undef)).drop (off + 1))) = rs.map (·.at_ a) := by
      apply List.ext_getElem?
      intro m
      rw [List.getElem?_set]
      by_cases him : i = m
      · subst him
        rw [if_pos rfl]
        split
        · rw [List.getElem?_map, h3]; rfl
        · rename_i hge
          rw [List.getElem?_eq_none (by omega)]
      · rw [if_neg him]
    exact (congrArg (fun l => HpH M0 w0 S l M w) e3).mpr g4
end
section
variable {P : Program} {n : Nat} {E : Env} {M0 : Av} {w0 : World} {S : Nat → Prop} {rs : List Res} {ε : Type} {res : ε → List Res}
/-- None of a table is turned any more. -/
theorem HpH.frzTab {Φ : ε → Av → World → Prop} {w : World} (hst : ∀ x M M', Ext M w M' w → Φ x M w → Φ x M' w) (h1 : ∀ x rs M, HpH M0 w0 S (res x ++ rs) M w → ∃ M', Ext M w M' w ∧ HpH M0 w0 S rs M' w ∧ Φ x M' w) :
    ∀ (X : List ε) (heads : List Res) (M : Av), HpH M0 w0 S (heads ++ tab res X) M w → ∃ M', Ext M w M' w ∧ HpH M0 w0 S heads M' w ∧ ∀ x ∈ X, Φ x M' w
  | [], heads, M, h => ⟨M, Ext.refl _ _, by simpa [tab] using h, fun x hx => by simp at hx⟩
  | x :: X, heads, M, h => by
    have hp : (heads ++ tab res (x :: X)).Perm (res x ++ (heads ++ tab res X)) := by
      show (heads ++ (res x ++ tab res X)).Perm _
      rw [← List.append_assoc, ← List.append_assoc]
      exact List.perm_append_comm.append_right _
    obtain ⟨M1, g1, g2, g3⟩ := h1 x _ M (HpH.perm hp h)
    obtain ⟨M2, k1, k2, k3⟩ := HpH.frzTab hst h1 X heads M1 g2
    refine ⟨M2, g1.trans k1, k2, fun y hy => ?_⟩
    rcases List.mem_cons.1 hy with rfl | hy
    · exact hst _ _ _ k1 g3
    · exact k3 y hy
theorem St.tabnew {a : Act} {w : World} (heads : List Res) {X : List ε} (x : ε) (hrs : rs = heads ++ tab res X) (h0 : ∀ r ∈ res x, r.blk = none ∧ ∀ M w, r.h M w) (h : St n E (Hp M0 w0 S rs) a w) : St n E (Hp M0 w0 S (heads ++ tab res (X ++ [x]))) a w := by
  subst hrs
  obtain ⟨M, h1, h2, h3, h4⟩ := h
  refine ⟨M, h1, h2, h3, ?_⟩
  have key : ∀ l : List Res, (∀ r ∈ l, r.blk = none ∧ ∀ M w, r.h M w) → ∀ rs, HpH M0 w0 S rs M w → HpH M0 w0 S (l ++ rs) M w := by
    intro l
    induction l with
    | nil => intro _ rs h; exact h
    | cons r l ih => intro hl rs h; exact HpH.add0 (ih (fun r hr => hl r (List.mem_cons_of_mem _ hr)) rs h) (hl r (List.mem_cons_self ..)).1 ((hl r (List.mem_cons_self ..)).2 _ _)
  have := key (res x) h0 _ h4
  refine HpH.perm ?_ this
  rw [tab_snoc, ← List.append_assoc heads]
  exact List.perm_append_comm
theorem Fin.tabnew {Q : Exit → Act → World → Prop} {e : Exit} (heads : List Res) {X : List ε} (x : ε) (hrs : rs = heads ++ tab res X) (h0 : ∀ r ∈ res x, r.blk = none ∧ ∀ M w, r.h M w) (k : Fin n E (Hp M0 w0 S (heads ++ tab res (X ++ [x]))) Q e) : Fin n E (Hp M0 w0 S rs) Q e :=
  Fin.conv (fun _ _ hs => hs.tabnew heads x hrs h0) k
/-- The same cells, said in other words. -/
theorem Tr.eqC {Q : Exit → Act → World → Prop} {c : Code} (j : Nat) {new : Bool} {b : Nat} {T : TypeId} {ps : List Pr} (qs : List Pr) (hi : rs[j]? = some (cellsRes new b T ps)) (h : ps = qs) (k : Tr P n E (Hp M0 w0 S (rs.set j (cellsRes new b T qs))) c Q) : Tr P n E (Hp M0 w0 S rs) c Q := by
  subst h; exact Tr.reC j ps hi (LeL.rfl' ps) k
theorem Fin.eqC {Q : Exit → Act → World → Prop} {e : Exit} (j : Nat) {new : Bool} {b : Nat} {T : TypeId} {ps : List Pr} (qs : List Pr) (hi : rs[j]? = some (cellsRes new b T ps)) (h : ps = qs) (k : Fin n E (Hp M0 w0 S (rs.set j (cellsRes new b T qs))) Q e) : Fin n E (Hp M0 w0 S rs) Q e := by
  subst h; exact Fin.reC j ps hi (LeL.rfl' ps) k
/-- A slice of ours, read by what its cells come to. -/
theorem own_mono {e : TypeId} {sz : Nat} {rows rows' : List (List Pr)} {v : Value} {M : Av} {w : World} (hl : rows.length = rows'.length) (hf : rows.flatten.length = rows'.flatten.length) (h : ∀ vs, HL M w rows.flatten vs → HL M w rows'.flatten vs) (ho : (ownRes e sz rows v).h M w) : (ownRes e sz rows' v).h M w := by
  rcases ho with ⟨h1, h2⟩ | ⟨b, cap, sp, h1, h2, h3, h4, h5, cs, h6, h7, h8⟩
  · refine .inl ⟨?_, h2⟩
    subst h1
    exact List.length_eq_zero_iff.1 hl.symm
  · refine .inr ⟨b, cap, sp, by rw [← hl]; exact h1, by rw [← hl]; exact h2, h3, by rw [← hl]; exact h4, h5, cs, h6, ?_, h8⟩
    have e1 := h7.take rows.flatten.length
    have e2 := h7.drop rows.flatten.length
    rw [List.take_left] at e1
    rw [List.drop_left] at e2
    have := (h _ e1).app e2
    rwa [List.take_append_drop] at this
theorem Tr.frzTab {Q : Exit → Act → World → Prop} {c : Code} {X : List ε} {Φ : ε → Av → World → Prop} {e : TypeId} {sz d : Nat} {f g : ε → List Pr} {v : Value} {p : Pr} (heads : List Res) (hrs : rs = ownRes e sz (X.map f) v :: heads ++ tab res X) (hd : E.lookup d = some (andIs v p)) (hf : ∀ x, (f x).length = sz) (hg : ∀ x, (g x).length = sz)
    (hst : ∀ x M M' w, Ext M w M' w → Φ x M w → Φ x M' w) (h1 : ∀ x rs M w, HpH M0 w0 S (res x ++ rs) M w → ∃ M', Ext M w M' w ∧ HpH M0 w0 S rs M' w ∧ Φ x M' w) (h2 : ∀ x M w vs, Φ x M w → HL M w (f x) vs → HL M w (g x) vs)
    (k : Tr P n ((d, andIs v (slice sz (X.map g))) :: E) (Hp M0 w0 S (appRes e sz v :: heads)) c Q) : Tr P n E (Hp M0 w0 S rs) c Q := by
  subst hrs
  intro a w hs
  obtain ⟨M, k1, k2, k3, k4⟩ := hs
  have k4 : HpH M0 w0 S ((ownRes e sz (X.map f) v :: heads) ++ tab res X) M w := k4
  obtain ⟨M1, g1, g2, g3⟩ := HpH.frzTab (Φ := Φ) (fun x M M' => hst x M M' w) (fun x rs M => h1 x rs M w) X _ M k4
  have hlen : ∀ (f : ε → List Pr), (∀ x, (f x).length = sz) → (X.map f).flatten.length = X.length * sz := fun f hf => by
    rw [flat_len (map_rows hf), List.length_map]
  have hown : (ownRes e sz (X.map g) v).h M1 w := by
    refine own_mono (by simp) (by rw [hlen f hf, hlen g hg]) (fun vs hvs => ?_) (g2.hold _ (List.mem_cons_self ..)).1
    have key : ∀ (Y : List ε) (vs : List Value), (∀ x ∈ Y, Φ x M1 w) → HL M1 w (Y.map f).flatten vs → HL M1 w (Y.map g).flatten vs := by
      intro Y
      induction Y with
      | nil => intro vs _ h; exact h
      | cons y Y ih =>
        intro vs hY h
        rw [List.map_cons, List.flatten_cons] at h ⊢
        have e1 := h.take (f y).length
        have e2 := h.drop (f y).length
        rw [List.take_left] at e1
        rw [List.drop_left] at e2
        have := (h2 y M1 w _ (hY y (List.mem_cons_self ..)) e1).app (ih _ (fun x hx => hY x (List.mem_cons_of_mem _ hx)) e2)
        rwa [List.take_append_drop] at this
    exact key X vs g3 hvs
  have g4 := g2.swap1 (i := 0) (r' := ownRes e sz (X.map g) v) rfl rfl rfl hown
  obtain ⟨M2, j1, j2, j3⟩ := HpH.frzO (j := 0) g4 rfl (map_rows hg)
  refine k a w ⟨M2, k1, k2, fun s q hq => ?_, j2⟩
  have hE : Ext M w M2 w := g1.trans j1
  simp only [List.lookup] at hq
  split at hq
  · rename_i e1
    have : s = d := by simpa using e1
    subst this
    simp only [Option.some.injEq] at hq
    subst hq
    have h9 := (k3 _ _ hd).1
    exact ⟨h9, by rw [h9]; exact j3⟩
  · exact q.st _ _ _ _ _ hE (k3 s q hq)
end
section
variable {P : Program} {n : Nat} {E : Env} {M0 : Av} {w0 : World} {S : Nat → Prop} {o : Oper}
/-- len of a slice of ours. -/
theorem okb_lens {I : Asn} {t e : TypeId} {x : Operand} {m : Nat} (ho : o.op = .call { callee := .builtin .len, args := #[x], argTypes := #[t] }) (ht : P.underlying t = some (.slice e)) (hx : VL E x (lens m)) : OpOK P I o E (int m) :=
  OpOK.same fun M w a he _ => by
    obtain ⟨A, c, h1⟩ := hx.ev he (by simp [ho, Op.operands, Call.operands])
    exact ⟨.int .i64 m, by simp [execOp, ho, resolve, invoke, builtin, Builtin.len_, h1, run_underlying ht, goInt], rfl⟩
theorem rd_lookup0 {κ : Type} [DecidableEq κ] {enc : κ → Value} {T kt et : TypeId} {x y : Operand} {b j : Nat} {es : List (κ × Int)} (k : κ) {q : Pr} (hT : MapT P T kt et enc) (ho : o.op = .lookup T x y false) (hx : VL E x (is (.map (some b)))) (hy : VL E y q) (hk : ∀ M w v, q.h M w v → v = enc k) :
    OpRd P M0 w0 S j (SR.c (mapR enc b es)) o E (int ((look es k).getD 0)) := by
  intro M w a rs he hI hj
  have h1 : a.eval x = _ := hx.ev he (by simp [ho, Op.operands])
  have h2 : a.eval y = enc k := hk _ _ _ (hy.ev he (by simp [ho, Op.operands]))
  have hj' : rs[j]? = some (mapR enc b es) := hj
  obtain ⟨_, hh⟩ := (hI.hold _ (List.mem_of_getElem? hj')).1
  have hrun : (execOp a.eval o).run P w = .ok (.value (.int .i64 ((look es k).getD 0))) w := by
    have hf := find_key hT k w es
    have hg := find_at (fun p : κ × Int => decide (k = p.1)) es
    unfold look
    cases hfi : es.findIdx? fun p => decide (k = p.1) with
    | none =>
      rw [hfi] at hf hg
      rw [← hg]
      simp only [Option.bind_none] at hf
      simp [execOp, ho, h1, h2, Instr.lookup, run_underlying hT.und, MapKept.run_getObj_map hh, hT.chk, hf, hT.zero, Result.andThen]
    | some i =>
      rw [hfi] at hf hg
      rw [← hg]
      have hil : i < es.length := by rw [List.findIdx?_eq_some_iff_getElem] at hfi; exact hfi.1
      simp only [Option.bind_some, List.getElem?_eq_getElem hil, Option.map_some] at hf ⊢
      simp [execOp, ho, h1, h2, Instr.lookup, run_underlying hT.und, MapKept.run_getObj_map hh, hT.chk, hf, Result.andThen]
  rw [hrun]
  exact ⟨rfl, Below.refl _ _⟩

end
end Cp
namespace Go.Proofs.YtgdlhajfajddiaaGreat
open Go Go.RowKit Cp

/-- An entity and the slices of its fields. -/
structure EntV where
  e : Ent
  vh : Value
  vm : Value
  vf : Value
abbrev rowV (x : EntV) : List Pr := [int x.e.num, andIs x.vh (lens x.e.hosts.length), andIs x.vm (lens x.e.machines.length), andIs x.vf (ints x.e.fnds)]
def resV (x : EntV) : List Res := [ownRes 9 1 (x.e.hosts.map fun t => [str t]) x.vh, ownRes 3 1 (x.e.machines.map fun t => [int t]) x.vm, appRes 3 1 x.vf]
theorem rowV_len (x : EntV) : (rowV x).length = 4 := rfl
def newV (k : Nat) : EntV := ⟨⟨(k : Nat), [], [], []⟩, .slice none 0 0, .slice none 0 0, .slice none 0 0⟩
theorem newV_res (k : Nat) : ∀ r ∈ resV (newV k), r.blk = none ∧ ∀ M w, r.h M w := by
  intro r hr
  unfold resV newV at hr
  simp only [List.mem_cons, List.not_mem_nil, or_false] at hr
  rcases hr with rfl | rfl | rfl
  · exact ⟨rfl, fun M w => .inl ⟨rfl, rfl⟩⟩
  · exact ⟨rfl, fun M w => .inl ⟨rfl, rfl⟩⟩
  · exact ⟨rfl, fun M w a n c hv => by cases hv⟩
theorem newV_row (k : Nat) : Pr.le (full 4 [[int ((k : Nat) : Int), is (.slice none 0 0), is (.slice none 0 0), is (.slice none 0 0)]]) (slice 4 [rowV (newV k)]) :=
  Pr.le_trans (full_le _ _) (slice_le ⟨⟨Pr.le_refl _, lens_nil rfl, lens_nil rfl, own_nil rfl, trivial⟩, trivial⟩)
def PhiV (x : EntV) (M : Av) (w : World) : Prop := (strs x.e.hosts).h M w x.vh ∧ (ints x.e.machines).h M w x.vm
theorem PhiV_st (x : EntV) (M M' : Av) (w : World) (h : Ext M w M' w) (hp : PhiV x M w) : PhiV x M' w := ⟨(strs x.e.hosts).st _ _ _ _ _ h hp.1, (ints x.e.machines).st _ _ _ _ _ h hp.2⟩
theorem PhiV_frz {M0 : Av} {w0 : World} {S : Nat → Prop} (x : EntV) (rs : List Res) (M : Av) (w : World) (h : HpH M0 w0 S (resV x ++ rs) M w) : ∃ M', Ext M w M' w ∧ HpH M0 w0 S rs M' w ∧ PhiV x M' w := by
  obtain ⟨M1, h1, h2, h3⟩ := HpH.frzO (j := 0) h rfl (map_rows fun _ => rfl)
  obtain ⟨M2, h4, h5, h6⟩ := HpH.frzO (j := 1) h2 rfl (map_rows fun _ => rfl)
  exact ⟨M2, h1.trans h4, ((h5.drop1).drop1).drop1, (slice 1 _).st _ _ _ _ _ h4 h3, h6⟩
abbrev rowW (x : EntV) : List Pr := rowE x.e
theorem PhiV_row (x : EntV) (M : Av) (w : World) (vs : List Value) (hp : PhiV x M w) (h : HL M w (rowV x) vs) : HL M w (rowW x) vs := by
  match vs, h with
  | [a, b, c, d], h =>
    obtain ⟨h1, h2, h3, h4, _⟩ := h
    obtain rfl : b = x.vh := h2.1
    obtain rfl : c = x.vm := h3.1
    exact ⟨h1, hp.1, hp.2, h4.2, trivial⟩
/-- Where the map says that each entity is. -/
def atM (l : List Fnd) (gap : Int) : Nat → List (Int × Int)
  | 0 => []
  | k + 1 => if rootS l gap k = k then updM (atM l gap k) ((rootS l gap k : Nat) : Int) ((entsK l (rootS l gap) k).length : Nat) else atM l gap k
theorem atM_yes {l : List Fnd} {gap : Int} {k : Nat} (h : rootS l gap k = k) : atM l gap (k + 1) = updM (atM l gap k) ((rootS l gap k : Nat) : Int) ((entsK l (rootS l gap) k).length : Nat) := if_pos h
theorem atM_no {l : List Fnd} {gap : Int} {k : Nat} (h : ¬ rootS l gap k = k) : atM l gap (k + 1) = atM l gap k := if_neg h
theorem entsK_len (l : List Fnd) (root : Nat → Nat) (n : Nat) : (entsK l root n).length = (rootsK root n).length := by unfold entsK; rw [List.length_map]
theorem rootsK_le (root : Nat → Nat) (n : Nat) : (rootsK root n).length ≤ n := by unfold rootsK; have := List.length_filter_le (fun r => decide (root r = r)) (List.range n); rw [List.length_range] at this; exact this
theorem atM_look {l : List Fnd} {gap : Int} : ∀ (k j r : Nat), (rootsK (rootS l gap) k)[j]? = some r → Cp.look (atM l gap k) ((r : Nat) : Int) = some ((j : Nat) : Int)
  | 0, j, r, h => by simp [rootsK] at h
  | k + 1, j, r, h => by
    rw [rootsK_succ] at h
    by_cases hr : rootS l gap k = k
    · rw [if_pos hr] at h
      rw [atM_yes hr, look_upd, hr]
      rcases Nat.lt_or_ge j (rootsK (rootS l gap) k).length with hj | hj
      · rw [List.getElem?_append_left hj] at h
        have := (rootsK_lt (List.mem_of_getElem? h)).1
        rw [if_neg (by omega)]
        exact atM_look k j r h
      · rw [List.getElem?_append_right hj] at h
        have hjl : j - (rootsK (rootS l gap) k).length = 0 := by
          rcases Nat.eq_zero_or_pos (j - (rootsK (rootS l gap) k).length) with h0 | h0
          · exact h0
          · rw [List.getElem?_eq_none (by simp; omega)] at h; cases h
        rw [hjl] at h
        simp only [List.getElem?_cons_zero, Option.some.injEq] at h
        subst h
        rw [if_pos rfl, entsK_len, show (rootsK (rootS l gap) k).length = j by omega]
    · rw [if_neg hr, List.append_nil] at h
      rw [atM_no hr]
      exact atM_look k j r h
theorem root_in {l : List Fnd} {gap : Int} {k : Nat} (hk : k < l.length) : ∃ i : Nat, (rootsK (rootS l gap) (k + 1))[i]? = some (rootS l gap k) ∧ Cp.look (atM l gap (k + 1)) ((rootS l gap k : Nat) : Int) = some ((i : Nat) : Int) := by
  have hm : rootS l gap k ∈ rootsK (rootS l gap) (k + 1) := by
    unfold rootsK
    rw [List.mem_filter, List.mem_range]
    exact ⟨Nat.lt_succ_of_le (rootS_le l gap k), by simpa using rootS_idem hk⟩
  obtain ⟨i, hi⟩ := List.mem_iff_getElem?.1 hm
  exact ⟨i, hi, atM_look _ _ _ hi⟩
theorem entsK_mid (l : List Fnd) {root : Nat → Nat} (hle : ∀ i, root i ≤ i) (n : Nat) : (entsK l root n ++ if root n = n then [(⟨(n : Nat), [], [], []⟩ : Ent)] else []) = (rootsK root (n + 1)).map fun r => entK l root r n := by
  rw [rootsK_succ, List.map_append]
  unfold entsK
  congr 1
  split
  · rw [List.map_singleton, entK_none hle n (Nat.le_refl _)]
  · rfl
theorem ents_at {l : List Fnd} {gap : Int} {k i : Nat} {X : List EntV} (hX : X.map (·.e) = entsK l (rootS l gap) k ++ if rootS l gap k = k then [(⟨(k : Nat), [], [], []⟩ : Ent)] else []) (hi : (rootsK (rootS l gap) (k + 1))[i]? = some (rootS l gap k)) : ∃ x, X[i]? = some x ∧ x.e = entK l (rootS l gap) (rootS l gap k) k := by
  rw [entsK_mid l (rootS_le l gap)] at hX
  have h1 : (X.map (·.e))[i]? = some (entK l (rootS l gap) (rootS l gap k) k) := by rw [hX, List.getElem?_map, hi]; rfl
  rw [List.getElem?_map, Option.map_eq_some_iff] at h1
  exact h1
theorem ents_next {l : List Fnd} {gap : Int} {k i : Nat} {f : Fnd} {X : List EntV} {x y : EntV} (hf : l[k]? = some f) (hX : X.map (·.e) = entsK l (rootS l gap) k ++ if rootS l gap k = k then [(⟨(k : Nat), [], [], []⟩ : Ent)] else []) (hi : (rootsK (rootS l gap) (k + 1))[i]? = some (rootS l gap k)) (hx : x.e = entK l (rootS l gap) (rootS l gap k) k) (hy : y.e = entAdd x.e f (k : Nat)) : (X.set i y).map (·.e) = entsK l (rootS l gap) (k + 1) := by
  rw [entsK_succ (rootS_le l gap) hf hi, List.map_set, hX, hy, hx]
theorem ent_asc (l : List Fnd) (root : Nat → Nat) (r : Nat) : ∀ n, AscC Lib.compareBytes (entK l root r n).hosts ∧ AscC cmpI (entK l root r n).machines
  | 0 => ⟨List.Pairwise.nil, List.Pairwise.nil⟩
  | n + 1 => by
    have ih := ent_asc l root r n
    unfold entK
    split
    · exact ih
    · split
      · unfold entAdd
        refine ⟨insC_strict cmp_bytes (fun x y h => (cmp_zero x y).1 h) ih.1, ?_⟩
        show AscC cmpI (if _ then _ else _)
        split
        · exact ih.2
        · exact insC_strict cmp_int (fun x y h => cmpI_zero.1 h) ih.2
      · exact ih
theorem set_len {ps : List Pr} {p : Pr} {off : Nat} (h : off < ps.length) : (ps.take off ++ [p] ++ ps.drop (off + 1)).length = ps.length := by
  rw [List.length_append, List.length_append, List.length_take, List.length_drop, List.length_singleton]; omega
theorem ent_two {X : List EntV} {x : EntV} {i off1 off2 : Nat} {f : Fnd} {k : Int} {v u : Value} {qs : List Pr} (hx : X[i]? = some x) (h1 : off1 = i * 4 + 1) (h2 : off2 = i * 4 + 3) {ps1 : List Pr} (hp : ps1 = (((X.map rowV).flatten ++ qs).take off1 ++ [andIs v (lens (insT x.e.hosts f.host).length)] ++ ((X.map rowV).flatten ++ qs).drop (off1 + 1))) :
    ps1.take off2 ++ [andIs u (slice 1 ((x.e.fnds.map fun n => [int n]) ++ [[int k]]))] ++ ps1.drop (off2 + 1) = ((X.set i ⟨⟨x.e.num, insT x.e.hosts f.host, x.e.machines, x.e.fnds ++ [k]⟩, v, x.vm, u⟩).map rowV).flatten ++ qs := by
  subst h1 h2
  have hil := lt_of_atX hx
  have e1 := cells_fset (f := rowV) (qs := qs) (y := ⟨⟨x.e.num, insT x.e.hosts f.host, x.e.machines, x.e.fnds⟩, v, x.vm, x.vf⟩) rowV_len hx (show 1 < 4 by decide) (p := andIs v (lens (insT x.e.hosts f.host).length)) rfl
  rw [e1] at hp
  subst hp
  have e2 := cells_fset (f := rowV) (qs := qs) (l := X.set i ⟨⟨x.e.num, insT x.e.hosts f.host, x.e.machines, x.e.fnds⟩, v, x.vm, x.vf⟩) (i := i) (y := ⟨⟨x.e.num, insT x.e.hosts f.host, x.e.machines, x.e.fnds ++ [k]⟩, v, x.vm, u⟩) rowV_len (by rw [List.getElem?_set, if_pos rfl, if_pos hil]) (show 3 < 4 by decide) (p := andIs u (slice 1 ((x.e.fnds.map fun n => [int n]) ++ [[int k]]))) (by show [_, _, _, andIs u _] = [_, _, _, andIs u (ints (x.e.fnds ++ [k]))]; unfold ints; rw [List.map_append]; rfl)
  rw [e2, List.set_set]
theorem ent_one {X : List EntV} {x : EntV} {i off : Nat} {m : Int} {v : Value} {qs : List Pr} (hx : X[i]? = some x) (h1 : off = i * 4 + 2) :
    ((X.map rowV).flatten ++ qs).take off ++ [andIs v (lens (insN x.e.machines m).length)] ++ ((X.map rowV).flatten ++ qs).drop (off + 1) = ((X.set i ⟨⟨x.e.num, x.e.hosts, insN x.e.machines m, x.e.fnds⟩, x.vh, v, x.vf⟩).map rowV).flatten ++ qs := by
  subst h1
  exact cells_fset (f := rowV) (qs := qs) (y := ⟨⟨x.e.num, x.e.hosts, insN x.e.machines m, x.e.fnds⟩, x.vh, v, x.vf⟩) rowV_len hx (show 2 < 4 by decide) (p := andIs v (lens (insN x.e.machines m).length)) rfl
theorem early_no {l : List Fnd} {gap : Int} (h : ¬ earlyR l gap = 0) : entR l gap = ([], earlyR l gap) := by
  unfold earlyR at h ⊢
  by_cases hN : NormP l
  · rw [if_pos hN] at h ⊢
    by_cases hg : gap < 0 ∨ 4000 < gap
    · rw [if_pos hg] at h ⊢
      exact Prod.ext (by rw [entR_gap hN hg]) (by rw [entR_gap hN hg])
    · rw [if_neg hg] at h; exact absurd rfl h
  · rw [if_neg hN] at h ⊢
    exact Prod.ext (by rw [entR_odd hN]) (by rw [entR_odd hN])
theorem early_yes {l : List Fnd} {gap : Int} (h : earlyR l gap = 0) : NormP l ∧ ¬ (gap < 0 ∨ 4000 < gap) := by
  unfold earlyR at h
  by_cases hN : NormP l
  · rw [if_pos hN] at h
    by_cases hg : gap < 0 ∨ 4000 < gap
    · rw [if_pos hg] at h; cases h
    · exact ⟨hN, hg⟩
  · rw [if_neg hN] at h; cases h


theorem w_proots {l : List Fnd} {gap : Int} {k b0 : Nat} (hn : l.length ≤ 400) (hk : k < l.length) : FunM Tryz.prog 61 [is (.pointer (some ⟨b0, 0, none⟩)), int ((k : Nat) : Int)] (int ((rootS l gap k : Nat) : Int)) (cellsRes true b0 139 (arr (parK l gap l.length))) (fun _ => cellsRes true b0 139 (arr (parK l gap l.length))) := by
  rw [← RR_eq hk]
  exact w_proot (parK_uf hn l.length (Nat.le_refl _)) (by omega)

end Go.Proofs.YtgdlhajfajddiaaGreat
namespace Go.Proofs.YtgdlhajfajddiaaGreat
open Go Go.RowKit Cp
set_option maxRecDepth 20000 in
theorem w_IEntities {l : List Fnd} {gap : Int} (hf : ∀ f ∈ l, f.fits) : Fun Tryz.prog 15 [fnds l, int gap] (tup [ents (entR l gap).1, int (entR l gap).2]) := by
 refine Fun.of Tryz.func15 rfl rfl (by exact Nat.le_of_ble_eq_true rfl) fun M0 w0 => ?_
 refine Tr.lenm 0 rfl fun hlm_0 => (Tr.seq (Tr.reg0 (cm rfl (cm rfl (Ch.nil (Fin.go (Tr.seq (Tr.seq (Tr.reg0 (cm rfl (cm rfl (co rfl (ok_call rfl (w_Iearly (by assumption)) ⟨ke rfl, ke rfl, trivial⟩) (cm rfl ?_)))))))))))))
 refine Ch.nil (Fin.go (Tr.seq (Tr.reg0 (cm rfl (co rfl (ki rfl rfl rfl rfl) (Ch.nil (Fin.go ?_)))))))
 refine Tr.cn rfl ?_ ?_ <;> intro h1 q1
 have hR := early_no (l := l) (gap := gap) q1
 refine Tr.seq (Tr.reg0 (cm rfl (cm rfl (cm rfl (Ch.nil (Fin.go (Tr.ret (Fin.then_ret (Fin.ret2 rfl (OutW.bse _ _) rfl ?_ rfl ?_)))))))))
 · rw [hR]; exact nil_slice 4
 · rw [hR]; exact Pr.le_refl _
 obtain ⟨hN, hg⟩ := early_yes (l := l) (gap := gap) q1
 have hd := days_of hN
 have hlen := hN.len
 have hn : l.length ≤ 400 := by omega
 refine Tr.skip (Fin.go (Tr.seq (Tr.regT (tm rfl (tm rfl (TO.pad ?_))))))
 refine TO.efs 0 rfl rfl (by decide) (ef_call rfl rfl (by decide) rfl (w_joined hd hn) ⟨ke rfl, ke rfl, trivial⟩) (fun v1 => ?_)
 refine TO.opn 22 0 _ rfl rfl (fun _ => rfl) (fun b1 => ?_)
 refine tm rfl (TO.nil (Fin.go (Tr.seq (Tr.reg0 (cm rfl (Ch.nil (Fin.go (Tr.seq (Tr.regT ?_)))))))))
 refine TO.mkmap encI rfl rfl (by decide) rfl (fun b2 => ?_)
 refine tm rfl (TO.nil (Fin.go (wk4 0 7 8 9 rfl (Tr.seq (Tr.seq (Tr.reg0 (cm rfl (co rfl (ok_lenm rfl Tryz.underlying31 (vl rfl)) (cm rfl (Ch.nil (Fin.go (Tr.block (Tr.addown 55 4 (Tr.loopD2V1 [(7, _), (9, _), (24, _), (25, _)] ⟨ke rfl, ke rfl, ke rfl, ke rfl, trivial⟩ (fun (k : Nat) (X : List EntV) v => [(26, int ((k : Nat) : Int)), (8, andIs v (lens ((X.map rowV)).length))]) (fun (k : Nat) (X : List EntV) v => Hp M0 w0 noS (ownRes 55 4 ((X.map rowV)) v :: mapR encI b2 (atM l gap k) :: cellsRes true b1 139 (arr (parK l gap l.length)) :: tab resV X)) (fun (k : Nat) (X : List EntV) => k ≤ l.length ∧ X.map (·.e) = entsK l (rootS l gap) k) (fun (k : Nat) (X : List EntV) => l.length - k) (0) ([]) (.slice none 0 0) (⟨Nat.zero_le _, rfl⟩) ⟨ke rfl, ⟨_, rfl, lens_nil (by rfl)⟩, trivial⟩ (fun _ _ h => h) ?_))))))))))))))
 rintro k X v ⟨hkl, hX0⟩
 refine Tr.seq (Tr.reg0 (co rfl (ki rfl rfl rfl rfl) (Ch.nil (Fin.go (Tr.seq ?_)))))
 refine Tr.cn rfl ?_ ?_ <;> intro h2 q2
 have hk_k : k < l.length := lt_of_dec h2
 obtain ⟨f, hx_k⟩ := at_ hk_k
 have hXk : X.length ≤ k := by have h9 := congrArg List.length hX0; rw [List.length_map, entsK_len] at h9; have := rootsK_le (rootS l gap) k; omega
 refine Tr.skip (Fin.go (Tr.seq (Tr.block (Tr.seq (Tr.regT (tm rfl (tp rfl (ok_indexAddr rfl Tryz.underlying31 sz26 (vl rfl) (vl rfl) (by omega) (by exact row_at (by assumption))) ?_)))))))
 refine tp rfl (ok_loadA rfl agg26 sz26 (vl rfl) rfl rfl) ?_
 refine TO.alloc rfl rfl (by decide) rfl z26 zo26 (fun b3 => ?_)
 refine tm rfl (TO.store_all 0 rfl rfl rfl (vl rfl) (VL.le (vl rfl) (agg_cellsP _)) rfl sz26 rfl rfl (TO.freeze 0 11 rfl rfl (TO.nil (Fin.go (wk8 7 8 9 10 11 24 25 26 rfl (Tr.seq (Tr.regT (tm rfl (tm rfl (TO.efc 2 rfl rfl (by decide) (ef_callc rfl rfl (by decide) rfl (w_proots hn hk_k) ⟨ke rfl, ke rfl, trivial⟩) (tm rfl (TO.nil (Fin.go (Tr.cutD1V1 [(7, _), (9, _), (10, _), (11, _), (12, _), (24, _), (25, _), (26, _)] ⟨ke rfl, ke rfl, ke rfl, ke rfl, ke rfl, ke rfl, ke rfl, ke rfl, trivial⟩ (fun (X : List EntV) v => [(8, andIs v (lens ((X.map rowV)).length))]) (fun (X : List EntV) v => Hp M0 w0 noS (ownRes 55 4 ((X.map rowV)) v :: mapR encI b2 (atM l gap (k + 1)) :: cellsRes true b1 139 (arr (parK l gap l.length)) :: tab resV X)) (fun (X : List EntV) => X.map (·.e) = entsK l (rootS l gap) k ++ if rootS l gap k = k then [(⟨(k : Nat), [], [], []⟩ : Ent)] else []) ?_ ?_))))))))))))))
 refine Tr.seq (Tr.reg0 (cm rfl (cm rfl (co rfl (ki rfl rfl rfl rfl) (Ch.nil (Fin.go (wk10 7 8 9 10 11 12 24 25 26 36 rfl ?_)))))))
 refine Tr.cn rfl ?_ ?_ <;> intro h3 q3
 have hr : rootS l gap k = k := by have := q3; omega
 refine Tr.seq (Tr.regT (tm rfl (tm rfl (tm rfl (tp rfl (okb_lens rfl Tryz.underlying35 ⟨_, rfl, andIs_le _ _⟩) (TO.ef0 1 rfl rfl (ef_mapupd (((rootS l gap k : Nat) : Int)) mapT_int rfl rfl rfl (vl rfl) (vl rfl) (fun _ _ _ h => h) (vl rfl)) (TO.nil (Fin.go (wk9 7 8 9 10 11 12 24 25 26 rfl (Tr.regT (tm rfl (tm rfl (tp rfl (ok_build (rows := [(0, [_])]) rfl bl55 zo55 ⟨⟨rfl, (VL.le (vl rfl) (one_cellsP _))⟩, trivial⟩ rfl) ?_)))))))))))))
 refine tp rfl (ok_buildSlice (xs := [.tmp 43]) (rows := [_]) rfl rfl Tryz.underlying35 sz55 z55 rfl (by decide) ⟨⟨(by exact rfl), (VL.le (vl rfl) (agg_cellsP _))⟩, trivial⟩ (by decide)) ?_
 refine TO.efs 0 rfl rfl (by decide) (ef_appmut rfl rfl (by decide) rfl Tryz.underlying35 sz55 by55 z55 rfl (by decide) (by decide) (vl rfl) ⟨_, rfl, newV_row k⟩ (map_rows fun _ => rfl) (Nat.zero_lt_succ _) (by simp only [List.length_map, List.length_cons, List.length_nil]; unfold maxLen; omega) (by simp only [List.length_map, List.length_cons, List.length_nil]; omega)) (fun v2 => ?_)
 refine tm rfl (TO.nil ?_)
 have hlen2 : (X.map rowV).length = (entsK l (rootS l gap) k).length := by rw [List.length_map, ← hX0, List.length_map]
 refine Fin.tabnew (res := resV) [_, _, _] (newV k) rfl (newV_res k) ?_
 exact Fin.famD1V1 (X ++ [newV k]) v2 ((by rw [if_pos hr, List.map_append, hX0]; rfl)) ⟨⟨_, rfl, lens_le (by simp)⟩, ke rfl, ke rfl, ke rfl, ke rfl, ke rfl, ke rfl, ke rfl, ke rfl, trivial⟩ ((by rw [atM_yes hr, ← hlen2, List.map_append]; exact fun _ _ h => h))
 have hr : ¬ rootS l gap k = k := by have := q3; omega
 refine Tr.skip ?_
 have hlen2 : (X.map rowV).length = (entsK l (rootS l gap) k).length := by rw [List.length_map, ← hX0, List.length_map]
 exact Fin.famD1V1 (X) v ((by rw [if_neg hr, hX0, List.append_nil])) ⟨⟨_, rfl, lens_le (by simp)⟩, ke rfl, ke rfl, ke rfl, ke rfl, ke rfl, ke rfl, ke rfl, ke rfl, trivial⟩ ((by rw [atM_no hr]; exact fun _ _ h => h))
 rintro X v hX
 refine Tr.seq ?_
 obtain ⟨i, hir, hil⟩ := root_in (gap := gap) hk_k
 obtain ⟨x, hx, hxe⟩ := ents_at hX hir
 have hiX : i < X.length := lt_of_atX hx
 have hXl : (X.map rowV).length = X.length := List.length_map ..
 have hlk : (Cp.look (atM l gap (k + 1)) ((rootS l gap k : Nat) : Int)).getD 0 = ((i : Nat) : Int) := by rw [hil]; rfl
 refine Tr.openG (sz := 4) 0 rfl (by intro h0; rw [h0] at hXl; simp at hXl; omega) fun b4 cap4 sp4 hv4 hg4 hm4 hs4 => ?_
 subst hv4
 have hcl : ((X.map rowV).flatten ++ sp4.map is).length = cap4 * 4 := by rw [List.length_append, flat_len (sz := 4) (map_rows rowV_len), List.length_map, List.length_map, hs4, ← Nat.add_mul]; congr 1; omega
 have hasc := ent_asc l (rootS l gap) (rootS l gap k) k
 have hel := ent_lens l (rootS l gap) (rootS l gap k) k
 rw [← hxe] at hasc hel
 have hmul : i * 4 + 4 ≤ cap4 * 4 := by have := Nat.mul_le_mul_right 4 (show i + 1 ≤ cap4 by omega); omega
 refine Tr.regT (tm rfl (tm rfl (tm rfl (TO.rd 1 rfl rfl rfl (by decide) (rd_lookup0 (((rootS l gap k : Nat) : Int)) mapT_int rfl (vl rfl) (vl rfl) (fun _ _ _ h => h)) (tp rfl (okp_indexSl rfl Tryz.underlying35 sz55 ⟨_, rfl, andIs_is _ _⟩ (vl rfl) (by omega) (by omega)) (tm rfl (TO.nil (Fin.go (wk9 7 8 9 10 11 13 24 25 26 rfl (Tr.seq (Tr.weak [(13, ptr b4 (i * 4)), (7, _), (8, _), (9, _), (10, _), (11, _), (24, _), (25, _), (26, _)] ⟨⟨_, rfl, Pr.le_of_eq (by rw [hlk, Int.toNat_natCast, Nat.zero_add])⟩, ke rfl, ke rfl, ke rfl, ke rfl, ke rfl, ke rfl, ke rfl, ke rfl, trivial⟩ (Tr.focus [_, _, _] hx rfl (Tr.pad (Tr.regX mixed [none, none, none, none, none, some (0, 4, false, 0), none, none, some (0, 1, true, 59), none, none, none, some (0, 4, false, 0), none, none, some (0, 3, true, 66), none, none, some (0, 4, true, 59), none, none, some (59, 4, true, .two 59 66)] (by kernel_rfl) ?_))))))))))))))
 refine xm rfl (xm rfl (xm rfl (xo rfl (fun _ => okp_nilCheck rfl (vl rfl)) (xo rfl (fun _ => okp_fieldAddr rfl fo55_1 (vl rfl)) (xrd 4 rfl rfl (rd_load1 rfl one53 (vl rfl) ((cells_fld rowV_len hx (by decide)).trans rfl)) (xo rfl (fun _ => kfa rfl fo26_1 rfl rfl) (xo rfl (fun _ => kl1 rfl one9 rfl) ?_)))))))
 refine Cx.ef 1 rfl rfl (by decide) (ef_call rfl rfl (by decide) rfl (w_inss (l := x.e.hosts) (x := f.host) hasc.1 (by omega)) ⟨ke rfl, ke rfl, trivial⟩) ?_
 refine xm rfl (xo rfl (fun _ => okp_nilCheck rfl (vl rfl)) (xo rfl (fun _ => okp_fieldAddr rfl fo55_3 (vl rfl)) (xrd 4 rfl rfl (rd_load1 rfl one22 (vl rfl) ((cells_fld rowV_len hx (by decide)).trans rfl)) (xm rfl (xo rfl (fun _ => ok_buildSlice (xs := [.tmp 64]) (rows := [[_]]) rfl rfl Tryz.underlying22 sz3 z3 rfl (by decide) ⟨⟨(by exact rfl), (VL.le (vl rfl) (one_cellsP _))⟩, trivial⟩ (by decide)) ?_)))))
 refine Cx.ef 3 rfl rfl (by decide) (ef_append rfl rfl (by decide) rfl Tryz.underlying22 sz3 by3 z3 rfl (by decide) ⟨_, rfl, andIs_le _ _⟩ ⟨_, rfl, full_le _ _⟩ (by simp only [List.length_map, List.length_append, List.length_cons, List.length_nil]; unfold maxLen; omega) (by simp only [List.length_map, List.length_append, List.length_cons, List.length_nil]; omega) (appR_is (by exact List.Mem.head _) ⟨_, rfl, andIs_is _ _⟩)) ?_
 refine xo rfl (fun _ => okp_nilCheck rfl (vl rfl)) (xo rfl (fun _ => okp_fieldAddr rfl fo55_1 (vl rfl)) ?_)
 refine Cx.ef0 4 rfl rfl (ef_storeS rfl rfl rfl (vl rfl) rfl sz53 (by rw [hcl]; omega)) ?_
 refine xo rfl (fun _ => okp_nilCheck rfl (vl rfl)) (xo rfl (fun _ => okp_fieldAddr rfl fo55_3 (vl rfl)) ?_)
 refine Cx.ef0 4 rfl rfl (ef_storeT rfl rfl rfl (vl rfl) rfl sz22 (fun v => by rw [set_len (by rw [hcl]; omega), hcl]; omega)) ?_
 refine Cx.nil ⟨rfl, ?_⟩
 refine FinX.open3 1 3 4 59 66 rfl rfl rfl (by decide) (by decide) (by decide) (by decide) rfl rfl (fun v3 v4 => ?_)
 refine FinX.done (AllC.cons (AllC.cons (AllC.cons (AllC.cons (AllC.cons (AllC.cons (AllC.cons (AllC.map _)))))))) (Fin.go (Tr.drop 0 (wk8 7 8 9 11 13 24 25 26 rfl (Tr.seq (Tr.eqC 3 (((X.set i ⟨⟨x.e.num, insT x.e.hosts f.host, x.e.machines, x.e.fnds ++ [((k : Nat) : Int)]⟩, v3, x.vm, v4⟩).map rowV).flatten ++ sp4.map is) rfl (ent_two hx (by omega) (by omega) rfl) ?_)))))
 have hx1 : (X.set i ⟨⟨x.e.num, insT x.e.hosts f.host, x.e.machines, x.e.fnds ++ [((k : Nat) : Int)]⟩, v3, x.vm, v4⟩)[i]? = some ⟨⟨x.e.num, insT x.e.hosts f.host, x.e.machines, x.e.fnds ++ [((k : Nat) : Int)]⟩, v3, x.vm, v4⟩ := by rw [List.getElem?_set, if_pos rfl, if_pos hiX]
 have hcl1 : (((X.set i ⟨⟨x.e.num, insT x.e.hosts f.host, x.e.machines, x.e.fnds ++ [((k : Nat) : Int)]⟩, v3, x.vm, v4⟩).map rowV).flatten ++ sp4.map is).length = cap4 * 4 := by rw [List.length_append, flat_len (sz := 4) (map_rows rowV_len), List.length_map, List.length_set, List.length_map, hs4, ← Nat.add_mul]; congr 1; omega
 refine Tr.reg0 (co rfl (kfa rfl fo26_2 rfl rfl) (co rfl (kl1 rfl one3 rfl) (co rfl (ki rfl rfl rfl rfl) (Ch.nil (Fin.go ?_)))))
 refine Tr.cn rfl ?_ ?_ <;> intro h4 q4
 refine Tr.regX mixed [none, none, none, none, some (0, 3, false, 0), none, none, some (0, 1, true, 81), none, none, some (0, 3, true, 81)] (by kernel_rfl) (xm rfl (xm rfl (xo rfl (fun _ => okp_nilCheck rfl (vl rfl)) (xo rfl (fun _ => okp_fieldAddr rfl fo55_2 (vl rfl)) (xrd 3 rfl rfl (rd_load1 rfl one22 (vl rfl) ((cells_fld rowV_len hx1 (by decide)).trans rfl)) (xo rfl (fun _ => kfa rfl fo26_2 rfl rfl) (xo rfl (fun _ => kl1 rfl one3 rfl) ?_)))))))
 refine Cx.ef 1 rfl rfl (by decide) (ef_call rfl rfl (by decide) rfl (w_insi (l := x.e.machines) (x := f.machine) hasc.2 (by omega)) ⟨ke rfl, ke rfl, trivial⟩) ?_
 refine xo rfl (fun _ => okp_nilCheck rfl (vl rfl)) (xo rfl (fun _ => okp_fieldAddr rfl fo55_2 (vl rfl)) ?_)
 refine Cx.ef0 3 rfl rfl (ef_storeS rfl rfl rfl (vl rfl) rfl sz22 (by rw [hcl1]; omega)) ?_
 refine Cx.nil ⟨rfl, ?_⟩
 refine FinX.open2 1 3 81 rfl rfl (by decide) rfl (fun v5 => ?_)
 refine FinX.done (AllC.cons (AllC.cons (AllC.cons (AllC.cons (AllC.cons (AllC.cons (AllC.map _))))))) (Fin.block (Fin.go (wk6 7 8 9 24 25 26 rfl (Tr.reg0 (cad rfl rfl rfl rfl (by omega) (cm rfl (Ch.nil (Fin.eqC 3 (((X.set i ⟨⟨x.e.num, insT x.e.hosts f.host, insN x.e.machines f.machine, x.e.fnds ++ [((k : Nat) : Int)]⟩, v3, v5, v4⟩).map rowV).flatten ++ sp4.map is) rfl ((ent_one (X := X.set i ⟨⟨x.e.num, insT x.e.hosts f.host, x.e.machines, x.e.fnds ++ [((k : Nat) : Int)]⟩, v3, x.vm, v4⟩) hx1 (by omega)).trans (by rw [List.set_set])) ?_))))))))
 refine Fin.unfocus (res := resV) [_, _, _] (⟨⟨x.e.num, insT x.e.hosts f.host, insN x.e.machines f.machine, x.e.fnds ++ [((k : Nat) : Int)]⟩, v3, v5, v4⟩ : EntV) hiX rfl ?_
 refine Fin.closeG (sz := 4) 0 rfl (m := (X.map rowV).length) (by simp) hg4 hm4 hs4 ?_
 exact Fin.famD2V1 (k + 1) (X.set i ⟨⟨x.e.num, insT x.e.hosts f.host, insN x.e.machines f.machine, x.e.fnds ++ [((k : Nat) : Int)]⟩, v3, v5, v4⟩) (.slice (some ⟨b4, 0, none⟩) (X.map rowV).length cap4) (⟨⟨by omega, ents_next hx_k hX hir hxe (by unfold entAdd; rw [if_neg (by assumption)])⟩, by omega⟩) ⟨⟨_, rfl, int_succ k⟩, ⟨_, rfl, lens_le (by simp)⟩, ke rfl, ke rfl, ke rfl, ke rfl, trivial⟩ (fun _ _ h => h)
 refine Tr.skip (Fin.block (Fin.go (Tr.reg0 (cad rfl rfl rfl rfl (by omega) (cm rfl (Ch.nil (Fin.unfocus (res := resV) [_, _, _] (⟨⟨x.e.num, insT x.e.hosts f.host, x.e.machines, x.e.fnds ++ [((k : Nat) : Int)]⟩, v3, x.vm, v4⟩ : EntV) hiX rfl ?_)))))))
 refine Fin.closeG (sz := 4) 0 rfl (m := (X.map rowV).length) (by simp) hg4 hm4 hs4 ?_
 exact Fin.famD2V1 (k + 1) (X.set i ⟨⟨x.e.num, insT x.e.hosts f.host, x.e.machines, x.e.fnds ++ [((k : Nat) : Int)]⟩, v3, x.vm, v4⟩) (.slice (some ⟨b4, 0, none⟩) (X.map rowV).length cap4) (⟨⟨by omega, ents_next hx_k hX hir hxe (by unfold entAdd; rw [if_pos (by assumption)])⟩, by omega⟩) ⟨⟨_, rfl, int_succ k⟩, ⟨_, rfl, lens_le (by simp)⟩, ke rfl, ke rfl, ke rfl, ke rfl, trivial⟩ (fun _ _ h => h)
 obtain rfl : k = l.length := (by have := ge_of_dec h2; omega)
 refine Tr.exit (Fin.then_exit (Fin.then_exit (Fin.block_here (Fin.go (Tr.seq (Tr.frzTab (Φ := PhiV) (f := rowV) (g := rowW) (d := 8) [_, _] rfl rfl rowV_len (fun _ => rfl) PhiV_st (fun x rs M w => PhiV_frz x rs M w) PhiV_row (Tr.reg0 (cm rfl (cm rfl (cm rfl (Ch.nil (Fin.go (Tr.ret (Fin.ret2 rfl (OutW.bse _ _) rfl ?_ rfl ?_))))))))))))))
 · rw [entR_ok hN (by omega)]; exact Pr.le_trans (andIs_le _ _) (Pr.le_of_eq (by show slice 4 _ = slice 4 ((entsK l (rootS l gap) l.length).map rowE); rw [← hX0, List.map_map]; rfl))
 · rw [entR_ok hN (by omega)]; exact Pr.le_refl _
end Go.Proofs.YtgdlhajfajddiaaGreat
namespace Go.Proofs.YtgdlhajfajddiaaGreat
open Go Go.RowKit Cp

section
variable {l : List Fnd} {gap : Int} {root : Nat → Nat}
theorem fnds_mem {r : Nat} {v : Int} : ∀ {n : Nat}, n ≤ l.length → (v ∈ (entK l root r n).fnds ↔ ∃ j : Nat, j < n ∧ root j = r ∧ v = (j : Nat))
  | 0, _ => by simp [entK]
  | n + 1, hn => by
    obtain ⟨f, hf⟩ := at_ (l := l) (k := n) (by omega)
    have ih := fnds_mem (r := r) (v := v) (n := n) (by omega)
    by_cases h : root n = r
    · rw [entK_yes hf h]
      show v ∈ _ ++ [_] ↔ _
      rw [List.mem_append, ih, List.mem_singleton]
      constructor
      · rintro (⟨j, h1, h2, h3⟩ | h1)
        · exact ⟨j, by omega, h2, h3⟩
        · exact ⟨n, by omega, h, h1⟩
      · rintro ⟨j, h1, h2, h3⟩
        rcases Nat.lt_or_eq_of_le (Nat.le_of_lt_succ h1) with h4 | h4
        · exact .inl ⟨j, h4, h2, h3⟩
        · subst h4; exact .inr h3
    · rw [entK_no h, ih]
      constructor
      · rintro ⟨j, h1, h2, h3⟩; exact ⟨j, by omega, h2, h3⟩
      · rintro ⟨j, h1, h2, h3⟩
        rcases Nat.lt_or_eq_of_le (Nat.le_of_lt_succ h1) with h4 | h4
        · exact ⟨j, h4, h2, h3⟩
        · subst h4; exact absurd h2 h
theorem ents_of {e : Ent} {n' : Nat} (h : e ∈ entsK l root n') : ∃ r, r < n' ∧ root r = r ∧ e = entK l root r n' := by
  unfold entsK at h
  rw [List.mem_map] at h
  obtain ⟨r, h1, h2⟩ := h
  exact ⟨r, (rootsK_lt h1).1, (rootsK_lt h1).2, h2.symm⟩
end


theorem sum_zero : ∀ R : List Nat, (∀ x ∈ R, x = 0) → R.sum = 0
  | [], _ => rfl
  | x :: R, h => by rw [List.sum_cons, h x (List.mem_cons_self ..), sum_zero R fun y hy => h y (List.mem_cons_of_mem _ hy)]
theorem ind_sum {r0 : Nat} : ∀ {R : List Nat}, R.Pairwise (· < ·) → r0 ∈ R → (R.map fun r => if r0 = r then 1 else 0).sum = 1
  | [], _, h => by simp at h
  | r :: R, hp, h => by
    obtain ⟨h1, h2⟩ := List.pairwise_cons.1 hp
    rw [List.map_cons, List.sum_cons]
    by_cases hr : r0 = r
    · subst hr
      have : (R.map fun r => if r0 = r then 1 else 0).sum = 0 := by
        refine sum_zero _ fun x hx => ?_
        rw [List.mem_map] at hx
        obtain ⟨s, hs, rfl⟩ := hx
        have := h1 s hs
        rw [if_neg (by omega)]
      rw [if_pos rfl, this]
    · rw [if_neg hr, ind_sum h2 (by rcases List.mem_cons.1 h with h3 | h3; exact absurd h3 hr; exact h3)]
end Go.Proofs.YtgdlhajfajddiaaGreat
namespace Go.Proofs.YtgdlhajfajddiaaGreat
open Go Go.RowKit Cp

abbrev InL (n : Nat) := {v : Int // 0 ≤ v ∧ v < n}
theorem attachL {n : Nat} {l : List Int} (h : ∀ v ∈ l, 0 ≤ v ∧ v < n) : ∃ L : List (InL n), L.map (·.1) = l :=
  ⟨l.attach.map fun x => ⟨x.1, h x.1 x.2⟩, by rw [List.map_map]; exact List.attach_map_subtype_val l⟩
def hitP (l : List Fnd) (p : Fnd → Bool) (v : Int) : Bool := match l[v.toNat]? with | some f => p f | none => false
theorem hit_at {l : List Fnd} {p : Fnd → Bool} {v : Int} {f : Fnd} (h : l[v.toNat]? = some f) : hitP l p v = p f := by unfold hitP; rw [h]
/-- The numbers of the entities that have a finding for which p is true. -/
def withE (l : List Fnd) (E : List Ent) (p : Fnd → Bool) : List Int := (E.filter fun e => e.fnds.any fun v => hitP l p v).map (·.num)
theorem with_succ {l : List Fnd} {E : List Ent} {p : Fnd → Bool} {k : Nat} {x : Ent} (hx : E[k]? = some x) : withE l (E.take (k + 1)) p = withE l (E.take k) p ++ if (x.fnds.any fun v => hitP l p v) then [x.num] else [] := by
  unfold withE
  rw [List.take_add_one, hx, List.filter_append, List.map_append]
  congr 1
  show (List.filter _ [x]).map _ = _
  by_cases h : (x.fnds.any fun v => hitP l p v) = true <;> simp [h]
abbrev touchP (f : Fnd) (g : Fnd) : Bool := decide (g.host = f.host) || (decide (¬ f.machine = 0) && decide (g.machine = f.machine))
noncomputable def touchR (l : List Fnd) (gap : Int) (f : Fnd) : List Int × Int := if (entR l gap).2 = 0 then (if checkF f then (withE l (entR l gap).1 (touchP f), 0) else ([], 24)) else ([], (entR l gap).2)
theorem entR_cases (l : List Fnd) (gap : Int) : (NormP l ∧ entR l gap = (entsF l gap, 0)) ∨ ((entR l gap).1 = [] ∧ ¬ (entR l gap).2 = 0) := by
  by_cases hN : NormP l
  · by_cases hg : gap < 0 ∨ 4000 < gap
    · right; rw [entR_gap hN hg]; exact ⟨rfl, by show ¬ (2 : Int) = 0; omega⟩
    · left; exact ⟨hN, entR_ok hN (by omega)⟩
  · right; rw [entR_odd hN]; exact ⟨rfl, by show ¬ (24 : Int) = 0; omega⟩
theorem ents_in (l : List Fnd) (gap : Int) : ∀ e ∈ (entR l gap).1, ∀ v ∈ e.fnds, 0 ≤ v ∧ v < (l.length : Nat) := by
  intro e he v hv
  rcases entR_cases l gap with ⟨_, h⟩ | ⟨h, _⟩
  · rw [h] at he
    obtain ⟨r, _, _, rfl⟩ := ents_of he
    obtain ⟨j, h1, _, h3⟩ := (fnds_mem (Nat.le_refl _)).1 hv
    omega
  · rw [h] at he; simp at he
theorem with_len {l : List Fnd} {E : List Ent} {p : Fnd → Bool} : (withE l E p).length ≤ E.length := by
  unfold withE; rw [List.length_map]; exact List.length_filter_le _ _
theorem ents_lenF (l : List Fnd) (gap : Int) : (entR l gap).1.length ≤ 400 := by
  rcases entR_cases l gap with ⟨hN, h⟩ | ⟨h, _⟩
  · rw [h]
    show (entsF l gap).length ≤ 400
    unfold entsF
    rw [entsK_len]
    have := rootsK_le (rootS l gap) l.length
    have := hN.len
    omega
  · rw [h]; simp

set_option maxRecDepth 20000 in
theorem w_IndexFuncL {n : Nat} {l : List (InL n)} {p : InL n → Bool}  : Fun Tryz.prog 152 [slice 1 (l.map fun x => [int x.1]), clo Tryz.prog (fun x : InL n => [int x.1]) (fun x => bool (p x))] (int (idx p l)) := by
 refine Fun.of Tryz.func152 rfl rfl (by exact Nat.le_of_ble_eq_true rfl) fun M0 w0 => ?_
 refine Tr.lenm 0 rfl fun hlm_0 => (Tr.seq (Tr.reg0 (cm rfl (Ch.nil (Fin.go (Tr.seq (Tr.seq (Tr.reg0 (cm rfl (co rfl (ok_lenm rfl Tryz.underlying22 (vl rfl)) (cm rfl (Ch.nil (Fin.go (Tr.block ?_))))))))))))))
 refine Tr.loopw [(0, _), (1, _), (7, _)] (kk3 rfl) (fun k : Nat => [(8, int ((k : Nat) : Int))]) (fun k : Nat => k ≤ (l).length ∧ (∀ j y, j < k → l[j]? = some y → p y = false)) (fun k : Nat => (l).length - k) 0 (⟨Nat.zero_le _, fun j y hj => absurd hj (by omega)⟩) ⟨ke rfl, trivial⟩ ?_
 rintro k ⟨hle_k, hinv_k⟩
 refine Tr.seq (Tr.reg0 (co rfl (ki rfl rfl rfl rfl) (Ch.nil (Fin.go (Tr.seq ?_)))))
 refine Tr.cn rfl ?_ ?_ <;> intro h1 q1
 have hk_k : k < (l).length := lt_of_dec h1
 obtain ⟨x, hx_k⟩ := at_ hk_k
 refine Tr.skip (Fin.go (Tr.seq (Tr.block (Tr.seq (Tr.reg0 (cm rfl (cm rfl (Ch.nil (Fin.go (Tr.seq (Tr.reg0 (cm rfl (cm rfl ?_)))))))))))))
 refine cm rfl (co rfl (ok_indexAddr rfl Tryz.underlying22 sz3 (vl rfl) (vl rfl) (by omega) (by exact row_at (by assumption))) ?_)
 refine co rfl (kl1 rfl one3 rfl) (co rfl (ok_callc x rfl (vl rfl) ⟨ke rfl, trivial⟩) (Ch.nil (Fin.go ?_)))
 refine Tr.cn rfl ?_ ?_ <;> intro h2 q2
 refine Tr.seq (Tr.reg0 (cm rfl (cm rfl (Ch.nil (Fin.go (wk1 4 rfl (Tr.ret (Fin.block_ret (Fin.then_ret (Fin.then_ret (Fin.block_ret (Fin.then_ret (Fin.ret1 rfl (OutW.bse _ _) rfl ?_)))))))))))))
 · exact int_eq (idx_found hx_k (by assumption) hinv_k)
 refine Tr.skip (Fin.block (Fin.go (Tr.reg0 (cad rfl rfl rfl rfl (by omega) (cm rfl (Ch.nil (Fin.fam_same (k + 1) ⟨⟨hk_k, step_no hx_k (by assumption) hinv_k⟩, by omega⟩ ⟨⟨_, rfl, int_succ k⟩, ke rfl, ke rfl, ke rfl, trivial⟩)))))))
 have he_k : k = (l).length := by have := ge_of_dec h1; omega
 subst he_k
 refine Tr.exit (Fin.then_exit (Fin.then_exit (Fin.block_here (Fin.go (Tr.seq (Tr.reg0 (cm rfl (Ch.nil (Fin.go (Tr.ret (Fin.ret1 rfl (OutW.bse _ _) rfl ?_)))))))))))
 · exact int_eq (idx_none hinv_k)
set_option maxRecDepth 20000 in
theorem w_ContainsFuncL {n : Nat} {l : List (InL n)} {p : InL n → Bool}  : Fun Tryz.prog 122 [slice 1 (l.map fun x => [int x.1]), clo Tryz.prog (fun x : InL n => [int x.1]) (fun x => bool (p x))] (bool (l.any p)) := by
 refine Fun.of Tryz.func122 rfl rfl (by exact Nat.le_of_ble_eq_true rfl) fun M0 w0 => ?_
 refine Tr.seq (Tr.reg0 (cm rfl (Ch.nil (Fin.go (Tr.seq (Tr.reg0 (cm rfl (cm rfl (co rfl (ok_call rfl (w_IndexFuncL) ⟨ke rfl, ke rfl, trivial⟩) (co rfl (ki rfl rfl rfl rfl) (cm rfl (Ch.nil (Fin.go (Tr.ret ?_))))))))))))))
 refine Fin.ret1 rfl (OutW.bse _ _) rfl ?_
 · exact bool_eq (idx_any p l)
set_option maxRecDepth 20000 in
theorem w_with1 {l : List Fnd} {p : Fnd → Bool} {v : Int} (h0 : 0 ≤ v) (hv : v < (l.length : Nat)) : Fun Tryz.prog 123 [int v, ref [clo Tryz.prog (fun f : Fnd => [agg (rowF f)]) (fun f => bool (p f))], ref [fnds l]] (bool (hitP l p v)) := by
 refine Fun.of Tryz.func123 rfl rfl (by exact Nat.le_of_ble_eq_true rfl) fun M0 w0 => ?_
 obtain ⟨f, hf⟩ := at_ (l := l) (k := v.toNat) (by omega)
 refine Tr.seq (Tr.reg0 (cm rfl (Ch.nil (Fin.go (Tr.seq (Tr.reg1 mixed (by kernel_rfl) (co rfl (kl1 rfl one104 rfl) (co rfl (kl1 rfl one31 rfl) (cm rfl (co rfl (ok_indexAddr rfl Tryz.underlying31 sz26 (vl rfl) (vl rfl) (by omega) (row_atI hf)) (co rfl (ok_loadA rfl agg26 sz26 (vl rfl) rfl rfl) (co rfl (ok_callc f rfl (vl rfl) ⟨ke rfl, trivial⟩) (cm rfl ?_)))))))))))))
 refine Ch.nil (Fin.go (Tr.ret (Fin.ret1 rfl (OutW.bse _ _) rfl ?_)))
 · exact bool_eq (hit_at hf).symm
theorem e_with1 : Entry Tryz.prog 123 := ⟨_, Tryz.func123, rfl, rfl⟩
set_option maxRecDepth 20000 in
theorem w_with {l : List Fnd} {E : List Ent} {p : Fnd → Bool} (hE : ∀ e ∈ E, ∀ v ∈ e.fnds, 0 ≤ v ∧ v < (l.length : Nat)) (hn : E.length ≤ 400) : Fun Tryz.prog 73 [fnds l, ents E, clo Tryz.prog (fun f : Fnd => [agg (rowF f)]) (fun f => bool (p f))] (ints (withE l E p)) := by
 refine Fun.of Tryz.func73 rfl rfl (by exact Nat.le_of_ble_eq_true rfl) fun M0 w0 => ?_
 refine Tr.lenm 1 rfl fun hlm_1 => (Tr.seq (Tr.reg0 (co rfl (ok_box rfl (VL.le (vl rfl) (one_cellsP _))) (co rfl (ok_box rfl (VL.le (vl rfl) (one_cellsP _))) (cm rfl (Ch.nil (Fin.go (Tr.seq (Tr.reg0 (cm rfl (Ch.nil (Fin.go (Tr.seq (Tr.seq ?_))))))))))))))
 refine Tr.reg0 (cm rfl (co rfl (ok_lenm rfl Tryz.underlying35 (vl rfl)) (cm rfl (Ch.nil (Fin.go (Tr.block (Tr.addnil 3 1 (Tr.loopV1 [(3, _), (5, _), (10, _), (11, _)] ⟨ke rfl, ke rfl, ke rfl, ke rfl, trivial⟩ (fun k v => [(12, int ((k : Nat) : Int)), (7, andIs v (ints (withE l (E.take k) p)))]) (fun k v => Hp M0 w0 noS ([appRes 3 1 v])) (fun k : Nat => k ≤ (E).length) (fun k : Nat => (E).length - k) 0 (.slice none 0 0) (Nat.zero_le _) ⟨ke rfl, ⟨_, rfl, own_nil rfl⟩, trivial⟩ (fun _ _ h => h) ?_))))))))
 rintro k v hle_k
 refine Tr.seq (Tr.reg0 (co rfl (ki rfl rfl rfl rfl) (Ch.nil (Fin.go (Tr.seq ?_)))))
 refine Tr.cn rfl ?_ ?_ <;> intro h1 q1
 have hk_k : k < (E).length := lt_of_dec h1
 obtain ⟨x, hx_k⟩ := at_ hk_k
 obtain ⟨L, hL⟩ := attachL (hE x (List.mem_of_getElem? hx_k))
 have hwl := with_len (l := l) (E := E.take k) (p := p)
 rw [List.length_take] at hwl
 refine Tr.skip (Fin.go (Tr.seq (Tr.block (Tr.seq (Tr.regT (tp rfl (ok_indexAddr rfl Tryz.underlying35 sz55 (vl rfl) (vl rfl) (by omega) (by exact row_at (by assumption))) ?_))))))
 refine tp rfl (ok_loadA rfl agg55 sz55 (vl rfl) rfl rfl) ?_
 refine TO.alloc rfl rfl (by decide) rfl z55 zo55 (fun b1 => ?_)
 refine TO.store_all 0 rfl rfl rfl (vl rfl) (VL.le (vl rfl) (agg_cellsP _)) rfl sz55 rfl rfl (TO.freeze 0 9 rfl rfl (TO.nil (Fin.go (Tr.seq (Tr.reg0 (co rfl (kfa rfl fo55_3 rfl rfl) (co rfl (kl1 rfl one22 rfl) (co rfl (ok_makeFunc rfl rfl) ?_))))))))
 refine co rfl (ok_call rfl (w_ContainsFuncL (l := L) (p := fun y => hitP l p y.1)) ⟨⟨_, rfl, Pr.le_of_eq (by rw [← hL]; unfold ints; rw [List.map_map]; rfl)⟩, ⟨_, rfl, fn_le_clo e_with1 (fun y => w_with1 y.2.1 y.2.2)⟩, trivial⟩) ?_
 refine Ch.nil (Fin.go (wk8 3 5 7 9 10 11 12 19 rfl ?_))
 refine Tr.cn rfl ?_ ?_ <;> intro h2 q2
 rw [show (L.any fun y => hitP l p y.1) = (x.fnds.any fun v => hitP l p v) by rw [← hL, List.any_map]; rfl] at h2
 have hst := with_succ (l := l) (p := p) hx_k
 rw [if_pos h2] at hst
 refine Tr.regT (tm rfl (tp rfl (kfa rfl fo55_0 rfl rfl) (tp rfl (kl1 rfl one3 rfl) (tp rfl (ok_buildSlice (xs := [.tmp 22]) (rows := [[_]]) rfl rfl Tryz.underlying22 sz3 z3 rfl (by decide) ⟨⟨(by exact rfl), (VL.le (vl rfl) (one_cellsP _))⟩, trivial⟩ (by decide)) ?_))))
 refine TO.efs 0 rfl rfl (by decide) (ef_append rfl rfl (by decide) rfl Tryz.underlying22 sz3 by3 z3 rfl (by decide) ⟨_, rfl, andIs_le _ _⟩ ⟨_, rfl, full_le _ _⟩ (by simp only [List.length_map, List.length_append, List.length_cons, List.length_nil]; unfold maxLen; omega) (by simp only [List.length_map, List.length_append, List.length_cons, List.length_nil]; omega) (appR_is (by exact List.Mem.head _) ⟨_, rfl, andIs_is _ _⟩)) (fun v1 => ?_)
 refine tm rfl (TO.nil (Fin.block (Fin.go (wk6 3 5 7 10 11 12 rfl (Tr.reg0 (cad rfl rfl rfl rfl (by omega) (cm rfl (Ch.nil ?_))))))))
 exact Fin.famV1 (k + 1) v1 (⟨hk_k, by omega⟩) ⟨⟨_, rfl, int_succ k⟩, ⟨_, rfl, own_le (by rw [hst, List.map_append]; rfl)⟩, ke rfl, ke rfl, ke rfl, ke rfl, trivial⟩ (fun _ _ h => h)
 rw [show (L.any fun y => hitP l p y.1) = (x.fnds.any fun v => hitP l p v) by rw [← hL, List.any_map]; rfl] at h2
 have hst := with_succ (l := l) (p := p) hx_k
 rw [if_neg (by rw [h2]; decide), List.append_nil] at hst
 refine Tr.skip (Fin.block (Fin.go (Tr.reg0 (cad rfl rfl rfl rfl (by omega) (cm rfl (Ch.nil (Fin.famV1 (k + 1) v (⟨hk_k, by omega⟩) ⟨⟨_, rfl, int_succ k⟩, ⟨_, rfl, own_le (by rw [hst])⟩, ke rfl, ke rfl, ke rfl, ke rfl, trivial⟩ (fun _ _ h => h))))))))
 have he_k : k = (E).length := by have := ge_of_dec h1; omega
 subst he_k
 rw [List.take_length]
 refine Tr.exit (Fin.then_exit (Fin.then_exit (Fin.block_here (Fin.go (Tr.seq (Tr.reg0 (cm rfl (cm rfl (Ch.nil (Fin.go (Tr.ret (Fin.ret1 rfl (OutW.bse _ _) rfl ?_))))))))))))
 · exact andIs_le _ _
set_option maxRecDepth 20000 in
theorem w_Touched1 {f g : Fnd}  : Fun Tryz.prog 76 [agg (rowF g), ref (rowF f)] (bool (touchP f g)) := by
 refine Fun.of Tryz.func76 rfl rfl (by exact Nat.le_of_ble_eq_true rfl) fun M0 w0 => ?_
 refine Tr.seq (Tr.reg0 (co rfl (ok_box rfl (VL.le (vl rfl) (agg_cellsP _))) (cm rfl (Ch.nil (Fin.go (Tr.seq (Tr.reg0 (co rfl (kfa rfl fo26_1 rfl rfl) (co rfl (kl1 rfl one9 rfl) (co rfl (kfa rfl fo26_1 rfl rfl) (co rfl (kl1 rfl one9 rfl) (co rfl (ok_eqs rfl (vl rfl) (vl rfl)) (cm rfl ?_)))))))))))))
 refine Ch.cs 9 rfl ?_ ?_ <;> intro h1 q1
 iterate 4 refine cnf h1 rfl ?_
 iterate 5 refine cu rfl ?_
 refine cnf h1 rfl (co rfl (kpt rfl rfl h1 rfl) (cm rfl (Ch.nil (Fin.go (wk1 3 rfl (Tr.ret (Fin.ret1 rfl (OutW.bse _ _) rfl ?_)))))))
 · refine bool_eq ?_; unfold touchP; rw [Bool.eq_iff_iff]; simp_all
 refine cy h1 rfl (kfa rfl fo26_2 rfl rfl) (cy h1 rfl (kl1 rfl one3 rfl) (cy h1 rfl (ki rfl rfl rfl rfl) (cym h1 rfl ?_)))
 refine Ch.cs 13 rfl ?_ ?_ <;> intro h2 q2
 refine cy h2 rfl (kfa rfl fo26_2 rfl rfl) (cy h2 rfl (kl1 rfl one3 rfl) (cy h2 rfl (kfa rfl fo26_2 rfl rfl) (cy h2 rfl (kl1 rfl one3 rfl) (cy h2 rfl (ki rfl rfl rfl rfl) (cy h1 rfl (kpt rfl rfl h2 rfl) (co rfl (kpf rfl rfl h1 rfl) (cm rfl (Ch.nil (Fin.go (wk1 3 rfl (Tr.ret (Fin.ret1 rfl (OutW.bse _ _) rfl ?_))))))))))))
 · refine bool_eq ?_; unfold touchP; rw [Bool.eq_iff_iff]; simp_all
 iterate 5 refine cnt h2 rfl ?_
 refine cy h1 rfl (kpf rfl rfl h2 rfl) (co rfl (kpf rfl rfl h1 rfl) (cm rfl (Ch.nil (Fin.go (wk1 3 rfl (Tr.ret (Fin.ret1 rfl (OutW.bse _ _) rfl ?_)))))))
 · refine bool_eq ?_; unfold touchP; rw [Bool.eq_iff_iff]; simp_all
theorem e_Touched1 : Entry Tryz.prog 76 := ⟨_, Tryz.func76, rfl, rfl⟩
set_option maxRecDepth 20000 in
theorem w_ITouched {l : List Fnd} {gap : Int} {f : Fnd} (hf : ∀ f ∈ l, f.fits) (hff : f.fits) : Fun Tryz.prog 22 [fnds l, int gap, agg (rowF f)] (tup [ints (touchR l gap f).1, int (touchR l gap f).2]) := by
 refine Fun.of Tryz.func22 rfl rfl (by exact Nat.le_of_ble_eq_true rfl) fun M0 w0 => ?_
 refine Tr.seq (Tr.reg0 (co rfl (ok_box rfl (VL.le (vl rfl) (agg_cellsP _))) (cm rfl (cm rfl (Ch.nil (Fin.go (Tr.seq (Tr.reg0 (cm rfl (cm rfl (co rfl (ok_call rfl (w_IEntities (by assumption)) ⟨ke rfl, ke rfl, trivial⟩) (cm rfl (co rfl (ok_extract rfl (vl rfl) rfl) ?_)))))))))))))
 refine co rfl (ok_extract rfl (vl rfl) rfl) (cm rfl (cm rfl (Ch.nil (Fin.go (Tr.seq (Tr.seq (Tr.reg0 (cm rfl (co rfl (ki rfl rfl rfl rfl) (Ch.nil (Fin.go ?_)))))))))))
 refine Tr.cn rfl ?_ ?_ <;> intro h1 q1
 have hE0 : ¬ (entR l gap).2 = 0 := q1
 have hR : touchR l gap f = ([], (entR l gap).2) := if_neg hE0
 refine Tr.seq (Tr.reg0 (cm rfl (cm rfl (cm rfl (Ch.nil (Fin.go (wk2 6 7 rfl (Tr.ret (Fin.then_ret (Fin.ret2 rfl (OutW.bse _ _) rfl ?_ rfl ?_))))))))))
 · rw [hR]; exact nil_slice 1
 · rw [hR]; exact Pr.le_refl _
 have hE0 : (entR l gap).2 = 0 := q1
 have hin := ents_in l gap
 have hln := ents_lenF l gap
 refine Tr.skip (Fin.go (Tr.seq (Tr.seq (Tr.reg0 (co rfl (ok_loadA rfl agg26 sz26 (vl rfl) rfl rfl) (co rfl (ok_call rfl (w_FCheck (by assumption)) ⟨ke rfl, trivial⟩) (cm rfl (Ch.nil (Fin.go (wk4 0 5 8 10 rfl (Tr.seq (Tr.reg0 (cm rfl ?_)))))))))))))
 refine co rfl (ki rfl rfl rfl rfl) (Ch.nil (Fin.go ?_))
 refine Tr.cn rfl ?_ ?_ <;> intro h2 q2
 have hc := check_noO q2
 have hR : touchR l gap f = ([], 24) := by unfold touchR; rw [if_pos hE0, if_neg (by rw [hc]; decide)]
 refine Tr.seq (Tr.reg0 (cm rfl (cm rfl (cm rfl (Ch.nil (Fin.go (Tr.ret (Fin.then_ret (Fin.ret2 rfl (OutW.bse _ _) rfl ?_ rfl ?_)))))))))
 · rw [hR]; exact nil_slice 1
 · rw [hR]; refine int_eq ?_; rw [hc]; rfl
 have hc := check_yesO q2
 have hR : touchR l gap f = (withE l (entR l gap).1 (touchP f), 0) := by unfold touchR; rw [if_pos hE0, if_pos hc]
 refine Tr.skip (Fin.go (Tr.seq (Tr.reg0 (cm rfl (cm rfl (co rfl (ok_makeFunc rfl rfl) ?_))))))
 refine co rfl (ok_call rfl (w_with (p := touchP f) hin hln) ⟨ke rfl, ke rfl, ⟨_, rfl, fn_le_clo e_Touched1 (fun g => w_Touched1)⟩, trivial⟩) ?_
 refine cm rfl (cm rfl (Ch.nil (Fin.go (Tr.ret (Fin.ret2 rfl (OutW.bse _ _) rfl ?_ rfl ?_)))))
 · rw [hR]; exact Pr.le_refl _
 · rw [hR]; exact Pr.le_refl _
end Go.Proofs.YtgdlhajfajddiaaGreat
