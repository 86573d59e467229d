/-
  The law: the state of a set is that of the set without its last change, and then this one.
-/
import Derived.Test.YtppeeogffbpcbaaGreatRows
import Derived.Test.YtppeeogffbpcbaaGreatElAP5
set_option linter.all false
set_option maxRecDepth 40000
set_option maxHeartbeats 16000000
namespace Go.Proofs.YtppeeogffbpcbaaGreat
open Go Go.RowKit Cp

structure ChS (l : List Crt) : Prop where
  fits : ∀ c ∈ l, c.fits
  small : (⟨0, 0, 0, l⟩ : Idn).small
abbrev chE : Pr := Cp.ex fun l : List Crt => fact (ChS l) (certs l)
/-- A change of which the chain is not told. -/
abbrev rowX (c : Chg) : List Pr := [int c.endpoint, int c.kind, int c.number, int c.at_, int c.idn.alg, int c.idn.bits, int c.idn.keyId, chE]
structure MovP (es : List Ept) (c : Chg) : Prop where
  lo : 0 ≤ c.endpoint
  hi : c.endpoint < (es.length : Nat)
  kind : 1 ≤ c.kind ∧ c.kind ≤ 12
def MovX (es : List Ept) (l : List Chg) : Prop := ∀ c ∈ l, MovP es c
theorem MovX.snoc {es : List Ept} {l : List Chg} {c : Chg} (h : MovX es l) (hc : MovP es c) : MovX es (l ++ [c]) := by
  intro x hx
  rcases List.mem_append.1 hx with hx | hx
  · exact h x hx
  · simp at hx; subst hx; exact hc
theorem MovX.two {es : List Ept} {l : List Chg} {c d : Chg} (h : MovX es l) (hc : MovP es c) (hd : MovP es d) : MovX es (l ++ [c, d]) := by
  intro x hx
  rcases List.mem_append.1 hx with hx | hx
  · exact h x hx
  · simp at hx; rcases hx with rfl | rfl; exact hc; exact hd
theorem MovX.perm {es : List Ept} {l m : List Chg} (hp : m.Perm l) (h : MovX es l) : MovX es m := fun c hc => h c (hp.mem_iff.1 hc)
theorem MovX.take {es : List Ept} {l : List Chg} {n : Nat} (h : MovX es l) : MovX es (l.take n) := fun c hc => h c (List.mem_of_mem_take hc)
theorem chS_nil : ChS [] := ⟨(fun c h => by cases h), ⟨by show 0 ≤ _; omega, (fun c hc => by cases hc)⟩⟩
theorem nil_chE : Pr.le (is (.slice none 0 0)) chE := ex_in [] (fact_in chS_nil (nil_slice 15))
theorem sum_chE {nm : List UInt8} (h : nm ∈ nameL) {a b id key : Int} : Pr.le (sumP nm a b id 901 key) chE := by
  rintro M w v ⟨s, hs, hv⟩
  have hf := leafF (a := a) (b := b) (id := id) (key := key) (s := s) h
  exact ⟨_, ⟨hf.1, ⟨hf.2.chain, hf.2.names⟩⟩, hv⟩
theorem leaf_agg {nm : List UInt8} {a b id to key : Int} : (leafE nm a b id to key).le (agg [int a, int b, int id, sumP nm a b id to key]) := by
  rintro M w v ⟨s, hs, hv⟩
  exact agg_le (ps := rowId (leafI nm a b id to key s)) (qs := [int a, int b, int id, sumP nm a b id to key]) ⟨Pr.le_refl _, Pr.le_refl _, Pr.le_refl _, fun M w v h => ⟨s, hs, h⟩, trivial⟩ M w v hv
theorem rowX_row (c : Chg) (M : Av) (w : World) (ad : Addr) (n : Nat) (h : Row M w ad n (rowX c)) : ∃ b : Chg, (b.endpoint = c.endpoint ∧ b.kind = c.kind ∧ b.number = c.number ∧ b.at_ = c.at_ ∧ ChS b.idn.chain) ∧ Row M w ad n (rowChg b) := by
  obtain ⟨ch, h1⟩ := row_exL (ps := [int c.endpoint, int c.kind, int c.number, int c.at_, int c.idn.alg, int c.idn.bits, int c.idn.keyId]) h
  obtain ⟨h2, h3⟩ := row_factL (ps := [int c.endpoint, int c.kind, int c.number, int c.at_, int c.idn.alg, int c.idn.bits, int c.idn.keyId]) h1
  exact ⟨⟨c.endpoint, c.kind, c.number, c.at_, ⟨c.idn.alg, c.idn.bits, c.idn.keyId, ch⟩⟩, ⟨rfl, rfl, rfl, rfl, h2⟩, h3⟩
structure Movs (es : List Ept) (l : List Chg) : Prop where
  len : l.length ≤ 7
  any : ∀ c ∈ l, AnyP es c
theorem mov_ex {es : List Ept} {ms : List Chg} (h : MovX es ms) (hl : ms.length ≤ 7) : Pr.le (slice 8 (ms.map rowX)) (Cp.ex fun l : List Chg => fact (Movs es l) (slice 8 (l.map rowChg))) := by
  intro M w v hv
  obtain ⟨l, ⟨h1, h2⟩, h3⟩ := slice_each rowX_row (fun _ => rfl) (fun _ => rfl) ms M w v hv
  refine ⟨l, ⟨by omega, fun c hc => ?_⟩, h3⟩
  obtain ⟨i, hi⟩ := List.getElem?_of_mem hc
  obtain ⟨a, ha⟩ := at_ (l := ms) (k := i) (by have := lt_of_at hi; omega)
  obtain ⟨g1, g2, g3, g4, g5⟩ := h2 i a c ha hi
  have hm := h a (List.mem_of_getElem? ha)
  exact ⟨by rw [g1]; exact hm.lo, by rw [g1]; exact hm.hi, by rw [g2]; exact hm.kind, g5.fits, ⟨g5.small.chain, g5.small.names⟩⟩

theorem w_Moves {b : Nat} {s : DS} {e : Est} (hs : SndL e.eps) (hl : 1 ≤ e.eps.length ∧ e.eps.length ≤ 3) : FunM Tryz.prog 29 [ptr b 0, agg (rowSt e)] (Cp.ex fun l : List Chg => fact (Movs e.eps l) (slice 8 (l.map rowChg))) (diceS b s) (fun _ => diceEx 101 b) := by
 refine FunM.of Tryz.func29 rfl rfl (by exact Nat.le_of_ble_eq_true rfl) fun M0 w0 S rs M1 w1 => ?_
 refine Tr.seq (Tr.reg0 (co rfl (ok_box rfl (VL.le (vl rfl) (agg_cellsP _))) (cm rfl (Ch.nil (Fin.go (Tr.seq (Tr.reg0 (cm rfl (Ch.nil (Fin.go (Tr.seq (Tr.regT (tm rfl ?_)))))))))))))
 refine TO.efc 0 rfl rfl (by decide) (ef_callc rfl rfl (by decide) rfl (w_DNext (by omega) (by omega)) ⟨ke rfl, ke rfl, trivial⟩) (tp rfl (ki rfl rfl rfl rfl) (tm rfl (TO.efc 0 rfl rfl (by decide) (ef_callc rfl rfl (by decide) rfl (w_DNext (by omega) (by omega)) ⟨ke rfl, ke rfl, trivial⟩) (tp rfl (ki rfl rfl rfl rfl) (tm rfl (TO.efc 0 rfl rfl (by decide) (ef_callc rfl rfl (by decide) rfl (w_DNext (by omega) (by omega)) ⟨ke rfl, ke rfl, trivial⟩) (tp rfl (ki rfl rfl rfl rfl) (tm rfl (tm rfl (tm rfl (TO.nil (Fin.go (wk6 0 3 5 6 7 8 rfl (Tr.seq ?_))))))))))))))
 refine Tr.seq (Tr.reg0 (co rfl (kfa rfl fo41_0 rfl rfl) (co rfl (kl1 rfl one37 rfl) (co rfl (ok_lenm rfl Tryz.underlying37 (vl rfl)) (cm rfl (Ch.nil (Fin.go (Tr.block (Tr.addown 29 8 (Tr.loopD3V1 [(0, _), (6, _), (7, _), (8, _), (23, _), (24, _)] ⟨ke rfl, ke rfl, ke rfl, ke rfl, ke rfl, ke rfl, trivial⟩ (fun (k : Nat) (ms : List Chg) (s2 : DS) v => [(25, int ((k : Nat) : Int)), (5, andIs v (lens (ms.map rowX).length))]) (fun (k : Nat) (ms : List Chg) (s2 : DS) v => Hp M0 w0 S (ownRes 29 8 (ms.map rowX) v :: diceS b s2 :: extRes M1 w1 :: rs)) (fun (k : Nat) (ms : List Chg) (s2 : DS) => k ≤ e.eps.length ∧ ms.length ≤ 6 * k ∧ MovX e.eps ms) (fun (k : Nat) (ms : List Chg) (s2 : DS) => e.eps.length - k) (0) ([]) (_) (.slice none 0 0) (⟨Nat.zero_le _, by simp, fun c hc => by simp at hc⟩) ⟨ke rfl, ⟨_, rfl, lens_nil (by rfl)⟩, trivial⟩ (fun _ _ h => h) ?_))))))))))
 rintro k ms s2 v ⟨hk1, hl_ms, hm_ms⟩
 refine Tr.seq (Tr.reg0 (co rfl (ki rfl rfl rfl rfl) (Ch.nil (Fin.go (Tr.seq ?_)))))
 refine Tr.cn rfl ?_ ?_ <;> intro h1 q1
 have hk_k : k < e.eps.length := by have := Nrm.nrm h1; omega
 obtain ⟨x, hx_k⟩ := at_ hk_k
 have hse := hs k x hx_k
 have hnm := List.mem_of_getElem? hse.name
 refine Tr.skip (Fin.go (Tr.seq (Tr.block (Tr.seq (Tr.regT (tm rfl (tp rfl (ok_indexAddr rfl Tryz.underlying37 sz32 (vl rfl) (vl rfl) (by omega) (row_at hx_k)) (tp rfl (ok_loadA rfl agg32 sz32 (vl rfl) rfl rfl) ?_))))))))
 refine TO.alloc rfl rfl (by decide) rfl z32 zo32 (fun b1 => ?_)
 refine tm rfl (TO.store_all 0 rfl rfl rfl (vl rfl) (VL.le (vl rfl) (agg_cellsP _)) rfl sz32 rfl rfl (TO.freeze 0 10 rfl rfl (TO.nil (Fin.go (wk10 0 5 6 7 8 9 10 23 24 25 rfl (Tr.cutD2V1 [(0, _), (6, _), (7, _), (8, _), (9, _), (10, _), (23, _), (24, _), (25, _)] ⟨ke rfl, ke rfl, ke rfl, ke rfl, ke rfl, ke rfl, ke rfl, ke rfl, ke rfl, trivial⟩ (fun (m1 : List Chg) (s3 : DS) v1 => [(5, andIs v1 (lens (m1.map rowX).length))]) (fun (m1 : List Chg) (s3 : DS) v1 => Hp M0 w0 S (ownRes 29 8 (m1.map rowX) v1 :: diceS b s3 :: extRes M1 w1 :: rs)) (fun (m1 : List Chg) (s3 : DS) => m1.length ≤ 6 * k + 1 ∧ MovX e.eps m1) ?_ ?_))))))
 refine Tr.seq (Tr.reg0 (cm rfl (cm rfl ?_)))
 refine Ch.cs 31 rfl ?_ ?_ <;> intro h2 q2
 refine cy h2 rfl (kfa rfl fo32_3 rfl rfl) (cy h2 rfl (kl1 rfl one22 rfl) (cy h2 rfl (ok_call rfl (w_mvHas) ⟨ke rfl, ke rfl, trivial⟩) (cy h2 rfl (ok_not rfl (vl rfl)) (co rfl (kpt rfl rfl h2 rfl) (Ch.nil (Fin.go (wk11 0 5 6 7 8 9 10 23 24 25 36 rfl ?_)))))))
 refine Tr.cn rfl ?_ ?_ <;> intro h3 q3
 have hv2 := s2.val_in (n := 2) (by omega)
 refine Tr.regT (tm rfl (tm rfl (tm rfl (TO.efc 1 rfl rfl (by decide) (ef_callc rfl rfl (by decide) rfl (w_DNext (by omega) (by omega)) ⟨ke rfl, ke rfl, trivial⟩) (tp rfl (ok_build (rows := [(0, [_]), (1, [_]), (2, [_]), (3, [_])]) rfl bl29 zo29 ⟨⟨rfl, (VL.le (vl rfl) (one_cellsP _))⟩, ⟨⟨rfl, (VL.le (vl rfl) (one_cellsP _))⟩, ⟨⟨rfl, (VL.le (vl rfl) (one_cellsP _))⟩, ⟨⟨rfl, (VL.le (vl rfl) (one_cellsP _))⟩, trivial⟩⟩⟩⟩ rfl) (tp rfl (ok_buildSlice (xs := [.tmp 41]) (rows := [rowX ⟨((k : Nat) : Int), 1, 12, s2.val 2, ⟨0, 0, 0, []⟩⟩]) rfl rfl Tryz.underlying47 sz29 z29 rfl (by decide) ⟨⟨(by exact rfl), VL.le (vl rfl) (Pr.le_trans (agg_le (qs := rowX _) ⟨Pr.le_refl _, Pr.le_refl _, Pr.le_refl _, Pr.le_refl _, Pr.le_refl _, Pr.le_refl _, Pr.le_refl _, nil_chE, trivial⟩) (agg_cellsP _))⟩, trivial⟩ (by decide)) ?_))))))
 refine TO.efs 0 rfl rfl (by decide) (ef_appmut rfl rfl (by decide) rfl Tryz.underlying47 sz29 by29 z29 rfl (by decide) (by decide) (vl rfl) ⟨_, rfl, full_le _ _⟩ (map_rows fun _ => rfl) (Nat.zero_lt_succ _) (by simp only [List.length_map, List.length_cons, List.length_nil]; unfold maxLen; omega) (by simp only [List.length_map, List.length_cons, List.length_nil]; omega)) (fun v1 => ?_)
 refine tm rfl (TO.nil ?_)
 exact Fin.famD2V1 (ms ++ [⟨((k : Nat) : Int), 1, 12, s2.val 2, ⟨0, 0, 0, []⟩⟩]) (_) v1 (⟨by simp; omega, hm_ms.snoc ⟨by show 0 ≤ ((k : Nat) : Int); omega, by show ((k : Nat) : Int) < _; omega, by dsimp only; omega⟩⟩) ⟨⟨_, rfl, lens_le (by simp)⟩, ke rfl, ke rfl, ke rfl, ke rfl, ke rfl, ke rfl, ke rfl, ke rfl, ke rfl, trivial⟩ (fun _ _ h => (by rw [List.map_append]; exact h))
 refine Tr.skip (Fin.famD2V1 (ms) (_) v (⟨by omega, hm_ms⟩) ⟨⟨_, rfl, lens_le (by simp)⟩, ke rfl, ke rfl, ke rfl, ke rfl, ke rfl, ke rfl, ke rfl, ke rfl, ke rfl, trivial⟩ (fun _ _ h => h))
 iterate 4 refine cnt h2 rfl ?_
 refine co rfl (kpf rfl rfl h2 rfl) (Ch.nil (Fin.go (wk11 0 5 6 7 8 9 10 23 24 25 36 rfl (Tr.cond rfl (fun h => nomatch h) (fun _ => ?_)))))
 refine Tr.skip (Fin.famD2V1 (ms) (_) v (⟨by omega, hm_ms⟩) ⟨⟨_, rfl, lens_le (by simp)⟩, ke rfl, ke rfl, ke rfl, ke rfl, ke rfl, ke rfl, ke rfl, ke rfl, ke rfl, trivial⟩ (fun _ _ h => h))
 rintro m1 s3 v1 ⟨hl_m1, hm_m1⟩
 refine Tr.cutD2V1 [(0, _), (6, _), (7, _), (8, _), (9, _), (10, _), (23, _), (24, _), (25, _)] ⟨ke rfl, ke rfl, ke rfl, ke rfl, ke rfl, ke rfl, ke rfl, ke rfl, ke rfl, trivial⟩ (fun (m2 : List Chg) (s4 : DS) v2 => [(5, andIs v2 (lens (m2.map rowX).length))]) (fun (m2 : List Chg) (s4 : DS) v2 => Hp M0 w0 S (ownRes 29 8 (m2.map rowX) v2 :: diceS b s4 :: extRes M1 w1 :: rs)) (fun (m2 : List Chg) (s4 : DS) => m2.length ≤ 6 * k + 2 ∧ MovX e.eps m2) ?_ ?_
 refine Tr.seq (Tr.reg0 (cm rfl (cm rfl ?_)))
 refine Ch.cs 45 rfl ?_ ?_ <;> intro h4 q4
 refine cym h4 rfl (cy h4 rfl (ki rfl rfl rfl rfl) (co rfl (kpt rfl rfl h4 rfl) (Ch.nil (Fin.go (wk11 0 5 6 7 8 9 10 23 24 25 48 rfl ?_)))))
 refine Tr.cn rfl ?_ ?_ <;> intro h5 q5
 refine Tr.regT (tm rfl (tm rfl (tp rfl (ok_build (rows := [(0, [_]), (1, [_]), (2, [_])]) rfl bl29 zo29 ⟨⟨rfl, (VL.le (vl rfl) (one_cellsP _))⟩, ⟨⟨rfl, (VL.le (vl rfl) (one_cellsP _))⟩, ⟨⟨rfl, (VL.le (vl rfl) (one_cellsP _))⟩, trivial⟩⟩⟩ rfl) (tp rfl (ok_buildSlice (xs := [.tmp 51]) (rows := [rowX ⟨((k : Nat) : Int), 7, 2, 0, ⟨0, 0, 0, []⟩⟩]) rfl rfl Tryz.underlying47 sz29 z29 rfl (by decide) ⟨⟨(by exact rfl), VL.le (vl rfl) (Pr.le_trans (agg_le (qs := rowX _) ⟨Pr.le_refl _, Pr.le_refl _, Pr.le_refl _, Pr.le_refl _, Pr.le_refl _, Pr.le_refl _, Pr.le_refl _, nil_chE, trivial⟩) (agg_cellsP _))⟩, trivial⟩ (by decide)) ?_))))
 refine TO.efs 0 rfl rfl (by decide) (ef_appmut rfl rfl (by decide) rfl Tryz.underlying47 sz29 by29 z29 rfl (by decide) (by decide) (vl rfl) ⟨_, rfl, full_le _ _⟩ (map_rows fun _ => rfl) (Nat.zero_lt_succ _) (by simp only [List.length_map, List.length_cons, List.length_nil]; unfold maxLen; omega) (by simp only [List.length_map, List.length_cons, List.length_nil]; omega)) (fun v2 => ?_)
 refine tm rfl (TO.nil ?_)
 exact Fin.famD2V1 (m1 ++ [⟨((k : Nat) : Int), 7, 2, 0, ⟨0, 0, 0, []⟩⟩]) (_) v2 (⟨by simp; omega, hm_m1.snoc ⟨by show 0 ≤ ((k : Nat) : Int); omega, by show ((k : Nat) : Int) < _; omega, by dsimp only; omega⟩⟩) ⟨⟨_, rfl, lens_le (by simp)⟩, ke rfl, ke rfl, ke rfl, ke rfl, ke rfl, ke rfl, ke rfl, ke rfl, ke rfl, trivial⟩ (fun _ _ h => (by rw [List.map_append]; exact h))
 refine Tr.skip (Fin.famD2V1 (m1) (_) v1 (⟨by omega, hm_m1⟩) ⟨⟨_, rfl, lens_le (by simp)⟩, ke rfl, ke rfl, ke rfl, ke rfl, ke rfl, ke rfl, ke rfl, ke rfl, ke rfl, trivial⟩ (fun _ _ h => h))
 refine cnt h4 rfl (cnt h4 rfl (co rfl (kpf rfl rfl h4 rfl) (Ch.nil (Fin.go (wk11 0 5 6 7 8 9 10 23 24 25 48 rfl (Tr.cond rfl (fun h => nomatch h) (fun _ => ?_)))))))
 refine Tr.skip (Fin.famD2V1 (m1) (_) v1 (⟨by omega, hm_m1⟩) ⟨⟨_, rfl, lens_le (by simp)⟩, ke rfl, ke rfl, ke rfl, ke rfl, ke rfl, ke rfl, ke rfl, ke rfl, ke rfl, trivial⟩ (fun _ _ h => h))
 rintro m2 s4 v2 ⟨hl_m2, hm_m2⟩
 refine Tr.cutD2V1 [(0, _), (6, _), (7, _), (8, _), (9, _), (10, _), (23, _), (24, _), (25, _)] ⟨ke rfl, ke rfl, ke rfl, ke rfl, ke rfl, ke rfl, ke rfl, ke rfl, ke rfl, trivial⟩ (fun (m3 : List Chg) (s5 : DS) v3 => [(5, andIs v3 (lens (m3.map rowX).length))]) (fun (m3 : List Chg) (s5 : DS) v3 => Hp M0 w0 S (ownRes 29 8 (m3.map rowX) v3 :: diceS b s5 :: extRes M1 w1 :: rs)) (fun (m3 : List Chg) (s5 : DS) => m3.length ≤ 6 * k + 3 ∧ MovX e.eps m3) ?_ ?_
 refine Tr.seq (Tr.reg0 (cm rfl (cm rfl ?_)))
 refine Ch.cs 55 rfl ?_ ?_ <;> intro h6 q6
 refine cym h6 rfl (cy h6 rfl (ki rfl rfl rfl rfl) (co rfl (kpt rfl rfl h6 rfl) (Ch.nil (Fin.go (wk11 0 5 6 7 8 9 10 23 24 25 58 rfl ?_)))))
 refine Tr.cn rfl ?_ ?_ <;> intro h7 q7
 have hof := s4.of_mem (l := [2, 1]) (by simp)
 simp at hof
 refine Tr.pad (Tr.regX mixed [none, none, none, none, none, none, none, some (0, 2, true, 0), none, none, none, none, none, none, some (0, 1, true, 73), some (73, 1, true, 5)] (by kernel_rfl) (xm rfl (xm rfl (xo rfl (fun _ => kfa rfl fo32_0 rfl rfl) (xo rfl (fun _ => kl1 rfl one9 rfl) (xo rfl (fun _ => ok_call rfl (w_EC) trivial) (xm rfl (xo rfl (fun _ => ok_buildSlice (xs := [.const (.int .i64 (2)), .const (.int .i64 (1))]) (rows := [[_], [_]]) rfl rfl Tryz.underlying22 sz3 z3 rfl (by decide) ⟨⟨(by exact rfl), (VL.le (vl rfl) (one_cellsP _))⟩, ⟨⟨(by exact rfl), (VL.le (vl rfl) (one_cellsP _))⟩, trivial⟩⟩ (by decide)) ?_))))))))
 refine Cx.ef 2 rfl rfl (by decide) (ef_callc rfl rfl (by decide) rfl (w_DOf (l := [2, 1]) (by simp) (by simp)) ⟨ke rfl, ⟨_, rfl, full_le _ _⟩, trivial⟩) ?_
 refine xo rfl (fun _ => ok_call rfl (w_Leaf (name := x.name) (a := 7) (b := 256) (id := 201) (to := 901) (key := s4.of [2, 1]) (leafV hnm (.inr ⟨rfl, rfl⟩) (by omega) (by omega) (by omega)) (leafT (.inr ⟨rfl, rfl⟩) (by omega)) (by omega)) ⟨ke rfl, ke rfl, ke rfl, ke rfl, ke rfl, trivial⟩) ?_
 refine xo rfl (fun _ => kfa rfl fo32_5 rfl rfl) (xo rfl (fun _ => kl1 rfl one30 rfl) (xo rfl (fun _ => ok_lenm rfl Tryz.underlying30 (vl rfl)) (xo rfl (fun _ => ok_build (rows := [(0, [_]), (1, [_]), (4, _), (3, [_])]) rfl bl29 zo29 ⟨⟨rfl, (VL.le (vl rfl) (one_cellsP _))⟩, ⟨⟨rfl, (VL.le (vl rfl) (one_cellsP _))⟩, ⟨⟨rfl, ⟨_, rfl, Pr.le_trans (leaf_agg) (agg_cellsP _)⟩⟩, ⟨⟨rfl, (VL.le (vl rfl) (one_cellsP _))⟩, trivial⟩⟩⟩⟩ rfl) (xo rfl (fun _ => ok_buildSlice (xs := [.tmp 71]) (rows := [rowX ⟨((k : Nat) : Int), 5, 0, ((x.ids.length : Nat) : Int), ⟨7, 256, 201, []⟩⟩]) rfl rfl Tryz.underlying47 sz29 z29 rfl (by decide) ⟨⟨(by exact rfl), VL.le (vl rfl) (Pr.le_trans (agg_le (qs := rowX _) ⟨Pr.le_refl _, Pr.le_refl _, Pr.le_refl _, Pr.le_refl _, Pr.le_refl _, Pr.le_refl _, Pr.le_refl _, sum_chE hnm, trivial⟩) (agg_cellsP _))⟩, trivial⟩ (by decide)) ?_))))
 refine Cx.ef 1 rfl rfl (by decide) (ef_appmut rfl rfl (by decide) rfl Tryz.underlying47 sz29 by29 z29 rfl (by decide) (by decide) (vl rfl) ⟨_, rfl, full_le _ _⟩ (map_rows fun _ => rfl) (Nat.zero_lt_succ _) (by simp only [List.length_map, List.length_cons, List.length_nil]; unfold maxLen; omega) (by simp only [List.length_map, List.length_cons, List.length_nil]; omega)) ?_
 refine Cx.ef 1 rfl rfl (by decide) (ef_move rfl rfl (by decide) rfl (vl rfl)) ?_
 refine Cx.nil ⟨rfl, ?_⟩
 refine FinX.open_ 1 5 rfl rfl (fun v3 => ?_)
 refine FinX.done (AllC.cons (AllC.cons (AllC.cons (AllC.cons (AllC.map _))))) (Fin.drop 0 ?_)
 exact Fin.famD2V1 (m2 ++ [⟨((k : Nat) : Int), 5, 0, ((x.ids.length : Nat) : Int), ⟨7, 256, 201, []⟩⟩]) (_) v3 (⟨by simp; omega, hm_m2.snoc ⟨by show 0 ≤ ((k : Nat) : Int); omega, by show ((k : Nat) : Int) < _; omega, by dsimp only; omega⟩⟩) ⟨⟨_, rfl, lens_le (by simp)⟩, ke rfl, ke rfl, ke rfl, ke rfl, ke rfl, ke rfl, ke rfl, ke rfl, ke rfl, trivial⟩ (fun _ _ h => (by rw [List.map_append]; exact h))
 refine Tr.skip (Fin.famD2V1 (m2) (_) v2 (⟨by omega, hm_m2⟩) ⟨⟨_, rfl, lens_le (by simp)⟩, ke rfl, ke rfl, ke rfl, ke rfl, ke rfl, ke rfl, ke rfl, ke rfl, ke rfl, trivial⟩ (fun _ _ h => h))
 refine cnt h6 rfl (cnt h6 rfl (co rfl (kpf rfl rfl h6 rfl) (Ch.nil (Fin.go (wk11 0 5 6 7 8 9 10 23 24 25 58 rfl (Tr.cond rfl (fun h => nomatch h) (fun _ => ?_)))))))
 refine Tr.skip (Fin.famD2V1 (m2) (_) v2 (⟨by omega, hm_m2⟩) ⟨⟨_, rfl, lens_le (by simp)⟩, ke rfl, ke rfl, ke rfl, ke rfl, ke rfl, ke rfl, ke rfl, ke rfl, ke rfl, trivial⟩ (fun _ _ h => h))
 rintro m3 s5 v3 ⟨hl_m3, hm_m3⟩
 refine Tr.cutD2V1 [(0, _), (6, _), (7, _), (8, _), (9, _), (10, _), (23, _), (24, _), (25, _)] ⟨ke rfl, ke rfl, ke rfl, ke rfl, ke rfl, ke rfl, ke rfl, ke rfl, ke rfl, trivial⟩ (fun (m4 : List Chg) (s6 : DS) v4 => [(5, andIs v4 (lens (m4.map rowX).length))]) (fun (m4 : List Chg) (s6 : DS) v4 => Hp M0 w0 S (ownRes 29 8 (m4.map rowX) v4 :: diceS b s6 :: extRes M1 w1 :: rs)) (fun (m4 : List Chg) (s6 : DS) => m4.length ≤ 6 * k + 4 ∧ MovX e.eps m4) ?_ ?_
 refine Tr.seq (Tr.regT (tm rfl (tm rfl ?_)))
 refine TO.cases 75 rfl (fun h8 => ?_) (fun h8 => ?_)
 have q8 := Nrm.nrm h8
 refine TO.opG rfl rfl rfl h8 rfl (by decide) (kfa rfl fo32_3 rfl rfl) (TO.opG rfl rfl rfl h8 rfl (by decide) (kl1 rfl one22 rfl) (TO.opG rfl rfl rfl h8 rfl (by decide) (ok_call rfl (w_mvHas) ⟨ke rfl, ke rfl, trivial⟩) (tp rfl (kpt rfl rfl h8 rfl) (tm rfl ?_))))
 refine TO.cases 80 rfl (fun h9 => ?_) (fun h9 => ?_)
 have q9 := Nrm.nrm h9
 refine TO.opG rfl rfl rfl h9 rfl (by decide) (ok_move rfl (vl rfl)) (TO.efcG 1 rfl rfl rfl h9 rfl rfl (by decide) (ef_callc rfl rfl (by decide) rfl (w_DNext (by omega) (by omega)) ⟨ke rfl, ke rfl, trivial⟩) (TO.opG rfl rfl rfl h9 rfl (by decide) (ki rfl rfl rfl rfl) (tp rfl (kpt rfl rfl h9 rfl) (TO.nil (Fin.go (wk11 0 5 6 7 8 9 10 23 24 25 84 rfl ?_))))))
 refine Tr.cn rfl ?_ ?_ <;> intro h10 q10
 refine Tr.regT (tm rfl (tm rfl (tp rfl (ok_build (rows := [(0, [_]), (1, [_]), (2, [_])]) rfl bl29 zo29 ⟨⟨rfl, (VL.le (vl rfl) (one_cellsP _))⟩, ⟨⟨rfl, (VL.le (vl rfl) (one_cellsP _))⟩, ⟨⟨rfl, (VL.le (vl rfl) (one_cellsP _))⟩, trivial⟩⟩⟩ rfl) (tp rfl (ok_buildSlice (xs := [.tmp 87]) (rows := [rowX ⟨((k : Nat) : Int), 2, 2, 0, ⟨0, 0, 0, []⟩⟩]) rfl rfl Tryz.underlying47 sz29 z29 rfl (by decide) ⟨⟨(by exact rfl), VL.le (vl rfl) (Pr.le_trans (agg_le (qs := rowX _) ⟨Pr.le_refl _, Pr.le_refl _, Pr.le_refl _, Pr.le_refl _, Pr.le_refl _, Pr.le_refl _, Pr.le_refl _, nil_chE, trivial⟩) (agg_cellsP _))⟩, trivial⟩ (by decide)) ?_))))
 refine TO.efs 0 rfl rfl (by decide) (ef_appmut rfl rfl (by decide) rfl Tryz.underlying47 sz29 by29 z29 rfl (by decide) (by decide) (vl rfl) ⟨_, rfl, full_le _ _⟩ (map_rows fun _ => rfl) (Nat.zero_lt_succ _) (by simp only [List.length_map, List.length_cons, List.length_nil]; unfold maxLen; omega) (by simp only [List.length_map, List.length_cons, List.length_nil]; omega)) (fun v4 => ?_)
 refine tm rfl (TO.nil ?_)
 exact Fin.famD2V1 (m3 ++ [⟨((k : Nat) : Int), 2, 2, 0, ⟨0, 0, 0, []⟩⟩]) (_) v4 (⟨by simp; omega, hm_m3.snoc ⟨by show 0 ≤ ((k : Nat) : Int); omega, by show ((k : Nat) : Int) < _; omega, by dsimp only; omega⟩⟩) ⟨⟨_, rfl, lens_le (by simp)⟩, ke rfl, ke rfl, ke rfl, ke rfl, ke rfl, ke rfl, ke rfl, ke rfl, ke rfl, trivial⟩ (fun _ _ h => (by rw [List.map_append]; exact h))
 refine Tr.skip (Fin.famD2V1 (m3) (_) v3 (⟨by omega, hm_m3⟩) ⟨⟨_, rfl, lens_le (by simp)⟩, ke rfl, ke rfl, ke rfl, ke rfl, ke rfl, ke rfl, ke rfl, ke rfl, ke rfl, trivial⟩ (fun _ _ h => h))
 have q9 := Nrm.nrm h9
 refine TO.noG rfl rfl rfl (ne_true h9) rfl (by decide) (TO.noG rfl rfl rfl (ne_true h9) rfl (by decide) (TO.noG rfl rfl rfl (ne_true h9) rfl (by decide) (tp rfl (kpf rfl rfl h9 rfl) (TO.nil (Fin.go (wk11 0 5 6 7 8 9 10 23 24 25 84 rfl (Tr.cond rfl (fun h => nomatch h) (fun _ => ?_))))))))
 refine Tr.skip (Fin.famD2V1 (m3) (_) v3 (⟨by omega, hm_m3⟩) ⟨⟨_, rfl, lens_le (by simp)⟩, ke rfl, ke rfl, ke rfl, ke rfl, ke rfl, ke rfl, ke rfl, ke rfl, ke rfl, trivial⟩ (fun _ _ h => h))
 have q8 := Nrm.nrm h8
 refine TO.noG rfl rfl rfl (ne_true h8) rfl (by decide) (TO.noG rfl rfl rfl (ne_true h8) rfl (by decide) (TO.noG rfl rfl rfl (ne_true h8) rfl (by decide) (tp rfl (kpf rfl rfl h8 rfl) (tm rfl (TO.noG rfl rfl rfl (ne_true rfl) rfl (by decide) (TO.noG rfl rfl rfl (ne_true rfl) rfl (by decide) (TO.noG rfl rfl rfl (ne_true rfl) rfl (by decide) (tp rfl (kpf rfl rfl rfl rfl) (TO.nil (Fin.go (wk11 0 5 6 7 8 9 10 23 24 25 84 rfl (Tr.cond rfl (fun h => nomatch h) (fun _ => ?_)))))))))))))
 refine Tr.skip (Fin.famD2V1 (m3) (_) v3 (⟨by omega, hm_m3⟩) ⟨⟨_, rfl, lens_le (by simp)⟩, ke rfl, ke rfl, ke rfl, ke rfl, ke rfl, ke rfl, ke rfl, ke rfl, ke rfl, trivial⟩ (fun _ _ h => h))
 rintro m4 s6 v4 ⟨hl_m4, hm_m4⟩
 refine Tr.seq (Tr.reg0 (cm rfl (cm rfl ?_)))
 refine Ch.cs 91 rfl ?_ ?_ <;> intro h11 q11
 refine cy h11 rfl (kfa rfl fo32_2 rfl rfl) (cy h11 rfl (kl1 rfl one3 rfl) (cy h11 rfl (ki rfl rfl rfl rfl) (co rfl (kpt rfl rfl h11 rfl) (Ch.nil (Fin.go (wk10 0 5 6 7 8 9 23 24 25 95 rfl ?_))))))
 refine Tr.cn rfl ?_ ?_ <;> intro h12 q12
 refine Tr.regT (tm rfl (tm rfl (tp rfl (ok_build (rows := [(0, [_]), (1, [_]), (2, [_])]) rfl bl29 zo29 ⟨⟨rfl, (VL.le (vl rfl) (one_cellsP _))⟩, ⟨⟨rfl, (VL.le (vl rfl) (one_cellsP _))⟩, ⟨⟨rfl, (VL.le (vl rfl) (one_cellsP _))⟩, trivial⟩⟩⟩ rfl) (tm rfl (tp rfl (ok_build (rows := [(0, [_]), (1, [_]), (2, [_])]) rfl bl29 zo29 ⟨⟨rfl, (VL.le (vl rfl) (one_cellsP _))⟩, ⟨⟨rfl, (VL.le (vl rfl) (one_cellsP _))⟩, ⟨⟨rfl, (VL.le (vl rfl) (one_cellsP _))⟩, trivial⟩⟩⟩ rfl) (tp rfl (ok_buildSlice (xs := [.tmp 98, .tmp 100]) (rows := [rowX ⟨((k : Nat) : Int), 3, 4, 0, ⟨0, 0, 0, []⟩⟩, rowX ⟨((k : Nat) : Int), 1, 14, 0, ⟨0, 0, 0, []⟩⟩]) rfl rfl Tryz.underlying47 sz29 z29 rfl (by decide) ⟨⟨(by exact rfl), VL.le (vl rfl) (Pr.le_trans (agg_le (qs := rowX _) ⟨Pr.le_refl _, Pr.le_refl _, Pr.le_refl _, Pr.le_refl _, Pr.le_refl _, Pr.le_refl _, Pr.le_refl _, nil_chE, trivial⟩) (agg_cellsP _))⟩, ⟨⟨(by exact rfl), VL.le (vl rfl) (Pr.le_trans (agg_le (qs := rowX _) ⟨Pr.le_refl _, Pr.le_refl _, Pr.le_refl _, Pr.le_refl _, Pr.le_refl _, Pr.le_refl _, Pr.le_refl _, nil_chE, trivial⟩) (agg_cellsP _))⟩, trivial⟩⟩ (by decide)) ?_))))))
 refine TO.efs 0 rfl rfl (by decide) (ef_appmut rfl rfl (by decide) rfl Tryz.underlying47 sz29 by29 z29 rfl (by decide) (by decide) (vl rfl) ⟨_, rfl, full_le _ _⟩ (map_rows fun _ => rfl) (Nat.zero_lt_succ _) (by simp only [List.length_map, List.length_cons, List.length_nil]; unfold maxLen; omega) (by simp only [List.length_map, List.length_cons, List.length_nil]; omega)) (fun v5 => ?_)
 refine tm rfl (TO.nil (Fin.block (Fin.go (wk8 0 5 6 7 8 23 24 25 rfl (Tr.reg0 (cad rfl rfl rfl rfl (by omega) (cm rfl (Ch.nil ?_))))))))
 exact Fin.famD3V1 (k + 1) (m4 ++ [⟨((k : Nat) : Int), 3, 4, 0, ⟨0, 0, 0, []⟩⟩, ⟨((k : Nat) : Int), 1, 14, 0, ⟨0, 0, 0, []⟩⟩]) (_) v5 (⟨⟨by omega, by simp; omega, hm_m4.two ⟨by show 0 ≤ ((k : Nat) : Int); omega, by show ((k : Nat) : Int) < _; omega, by dsimp only; omega⟩ ⟨by show 0 ≤ ((k : Nat) : Int); omega, by show ((k : Nat) : Int) < _; omega, by dsimp only; omega⟩⟩, by omega⟩) ⟨⟨_, rfl, int_succ k⟩, ⟨_, rfl, lens_le (by simp)⟩, ke rfl, ke rfl, ke rfl, ke rfl, ke rfl, ke rfl, trivial⟩ (fun _ _ h => (by rw [List.map_append]; exact h))
 refine Tr.skip (Fin.block (Fin.go (Tr.reg0 (cad rfl rfl rfl rfl (by omega) (cm rfl (Ch.nil (Fin.famD3V1 (k + 1) (m4) (_) v4 (⟨⟨by omega, by omega, hm_m4⟩, by omega⟩) ⟨⟨_, rfl, int_succ k⟩, ⟨_, rfl, lens_le (by simp)⟩, ke rfl, ke rfl, ke rfl, ke rfl, ke rfl, ke rfl, trivial⟩ (fun _ _ h => h))))))))
 refine cnt h11 rfl (cnt h11 rfl (cnt h11 rfl (co rfl (kpf rfl rfl h11 rfl) (Ch.nil (Fin.go (wk10 0 5 6 7 8 9 23 24 25 95 rfl (Tr.cond rfl (fun h => nomatch h) (fun _ => ?_))))))))
 refine Tr.skip (Fin.block (Fin.go (Tr.reg0 (cad rfl rfl rfl rfl (by omega) (cm rfl (Ch.nil (Fin.famD3V1 (k + 1) (m4) (_) v4 (⟨⟨by omega, by omega, hm_m4⟩, by omega⟩) ⟨⟨_, rfl, int_succ k⟩, ⟨_, rfl, lens_le (by simp)⟩, ke rfl, ke rfl, ke rfl, ke rfl, ke rfl, ke rfl, trivial⟩ (fun _ _ h => h))))))))
 have := h1
 refine Tr.exit (Fin.then_exit (Fin.then_exit (Fin.block_here (Fin.go (Tr.seq (Tr.block ?_))))))
 rcases Nat.eq_zero_or_pos ms.length with h0 | h0
 refine Tr.loopw [(0, _)] ⟨ke rfl, trivial⟩ (fun _ => [(5, andIs v (lens (ms.map rowX).length))]) (fun _ => True) (fun _ => 0) () (trivial) ⟨ke rfl, trivial⟩ ?_
 rintro _ _
 refine Tr.seq (Tr.seq (Tr.reg0 (cm rfl (co rfl (okb_lens rfl Tryz.underlying47 ⟨_, rfl, andIs_le _ _⟩) (co rfl (ki rfl rfl rfl rfl) (Ch.nil (Fin.go ?_)))))))
 refine Tr.cn rfl ?_ ?_ <;> intro h13 q13
 exfalso; have h_ := Nrm.nrm h13; rw [List.length_map] at h_; omega
 have := h13
 refine Tr.exit (Fin.then_exit (Fin.then_exit (Fin.block_here (Fin.go (Tr.seq (Tr.seq ?_))))))
 have hv4 := s2.val_in (n := 4) (by omega)
 refine Tr.regT (tm rfl (TO.efc 1 rfl rfl (by decide) (ef_callc rfl rfl (by decide) rfl (w_DNext (by omega) (by omega)) ⟨ke rfl, ke rfl, trivial⟩) (tm rfl (TO.nil (Fin.go (Tr.block (Tr.loopD2V0 [(0, _)] ⟨ke rfl, trivial⟩ (fun (q : Int) (s9 : DS) => [(11, int q), (5, andIs v (lens (ms.map rowX).length))]) (fun (q : Int) (s9 : DS) => Hp M0 w0 S (ownRes 29 8 (ms.map rowX) v :: diceS b s9 :: extRes M1 w1 :: rs)) (fun (q : Int) (s9 : DS) => True) (fun (q : Int) (s9 : DS) => q.toNat) (_) (_)  (trivial) ⟨ke rfl, ke rfl, trivial⟩ (fun _ _ h => h) ?_)))))))
 rintro q s9  _
 refine Tr.seq (Tr.seq (Tr.reg0 (cm rfl (co rfl (ki rfl rfl rfl rfl) (cm rfl ?_)))))
 refine Ch.cs 116 rfl ?_ ?_ <;> intro h14 q14
 refine cym h14 rfl (cy h14 rfl (okb_lens rfl Tryz.underlying47 ⟨_, rfl, andIs_le _ _⟩) (cy h14 rfl (ki rfl rfl rfl rfl) (co rfl (kpt rfl rfl h14 rfl) (Ch.nil (Fin.go ?_)))))
 refine Tr.cn rfl ?_ ?_ <;> intro h15 q15
 exfalso; have h_ := Nrm.nrm h15; rw [List.length_map] at h_; omega
 have := h15
 refine Tr.exit (Fin.then_exit (Fin.then_exit (Fin.block_here (Fin.go (Tr.seq (Tr.frzG 0 5 rfl rfl (map_rows fun _ => rfl) (Tr.reg0 (cm rfl (cm rfl (Ch.nil (Fin.go (Tr.ret (Fin.closeD 1 _ rfl rfl (Fin.retY1 [_] rfl (RVal.tmp rfl (Pr.le_refl _)) ?_ (fun _ _ _ _ => rfl)))))))))))))))
 · exact Pr.le_trans (andIs_le _ _) (mov_ex hm_ms (by omega))
 refine cnt h14 rfl (cnt h14 rfl (cnt h14 rfl (co rfl (kpf rfl rfl h14 rfl) (Ch.nil (Fin.go (Tr.cond rfl (fun h => nomatch h) (fun _ => ?_)))))))
 refine Tr.exit (Fin.then_exit (Fin.then_exit (Fin.block_here (Fin.go (Tr.seq (Tr.frzG 0 5 rfl rfl (map_rows fun _ => rfl) (Tr.reg0 (cm rfl (cm rfl (Ch.nil (Fin.go (Tr.ret (Fin.closeD 1 _ rfl rfl (Fin.retY1 [_] rfl (RVal.tmp rfl (Pr.le_refl _)) ?_ (fun _ _ _ _ => rfl)))))))))))))))
 · exact Pr.le_trans (andIs_le _ _) (mov_ex hm_ms (by omega))
 refine Tr.openG (sz := 8) 0 rfl (by intro h_; simp at h_; rw [h_] at h0; simp at h0) fun b9 cap9 sp9 hv9 hg9 hm9 hs9 => ?_
 subst hv9
 rw [List.length_map] at hg9 hs9
 refine Tr.loopD1V0 [(0, _)] ⟨ke rfl, trivial⟩ (fun (m : Nat) => [(5, is (.slice (some ⟨b9, 0, none⟩) m cap9))]) (fun (m : Nat) => Hp M0 w0 S (cellsRes true b9 29 ((ms.map rowX).flatten ++ sp9.map is) :: diceS b s2 :: extRes M1 w1 :: rs)) (fun (m : Nat) => 1 ≤ m ∧ m ≤ ms.length) (fun (m : Nat) => m) (ms.length)  (⟨h0, Nat.le_refl _⟩) ⟨⟨_, rfl, Pr.le_trans (andIs_is _ _) (Pr.le_of_eq (by rw [List.length_map]))⟩, trivial⟩ (fun _ _ h => h) ?_
 rintro m  ⟨hm1, hm2⟩
 refine Tr.seq (Tr.seq (Tr.reg0 (cm rfl (co rfl (okb_len rfl Tryz.underlying47 (vl rfl)) (co rfl (ki rfl rfl rfl rfl) (Ch.nil (Fin.go ?_)))))))
 refine Tr.cn rfl ?_ ?_ <;> intro h16 q16
 have hm7 : 7 < m := by have := Nrm.nrm h16; omega
 refine Tr.skip (Fin.go (Tr.block (Tr.reg0 (cm rfl (cm rfl (co rfl (okb_len rfl Tryz.underlying47 (vl rfl)) (csu rfl rfl rfl rfl (by omega) (co rfl (okb_sliceTo rfl Tryz.underlying47 sz29 (vl rfl) (vl rfl) (by omega) (by omega) (by omega) (by omega)) (cm rfl (Ch.nil (Fin.block ?_)))))))))))
 exact Fin.famD1V0 (m - 1)  (⟨⟨by omega, by omega⟩, by omega⟩) ⟨⟨_, rfl, Pr.le_of_eq (by congr 2; omega)⟩, ke rfl, trivial⟩ (fun _ _ h => h)
 have hm7 : m ≤ 7 := by have := Nrm.nrm h16; omega
 refine Tr.exit (Fin.then_exit (Fin.then_exit (Fin.block_here (Fin.go (Tr.seq (Tr.seq ?_))))))
 have hv4 := s2.val_in (n := 4) (by omega)
 refine Tr.regT (tm rfl (TO.efc 1 rfl rfl (by decide) (ef_callc rfl rfl (by decide) rfl (w_DNext (by omega) (by omega)) ⟨ke rfl, ke rfl, trivial⟩) (tm rfl (TO.nil (Fin.go (Tr.block (Tr.loopD3V0 [(0, _)] ⟨ke rfl, trivial⟩ (fun (q : Int) (ns : List Chg) (s9 : DS) => [(11, int q), (5, is (.slice (some ⟨b9, 0, none⟩) m cap9))]) (fun (q : Int) (ns : List Chg) (s9 : DS) => Hp M0 w0 S (cellsRes true b9 29 ((ns.map rowX).flatten ++ sp9.map is) :: diceS b s9 :: extRes M1 w1 :: rs)) (fun (q : Int) (ns : List Chg) (s9 : DS) => (ns.length = ms.length ∧ q ≤ 3) ∧ MovX e.eps ns) (fun (q : Int) (ns : List Chg) (s9 : DS) => q.toNat) (_) (ms) (_)  (⟨⟨rfl, by omega⟩, hm_ms⟩) ⟨ke rfl, ke rfl, trivial⟩ (fun _ _ h => h) ?_)))))))
 rintro q ns s9  ⟨⟨hn1, hn3⟩, hn2⟩
 refine Tr.seq (Tr.seq (Tr.reg0 (cm rfl (co rfl (ki rfl rfl rfl rfl) (cm rfl ?_)))))
 refine Ch.cs 116 rfl ?_ ?_ <;> intro h17 q17
 refine cym h17 rfl (cy h17 rfl (okb_len rfl Tryz.underlying47 (vl rfl)) (cy h17 rfl (ki rfl rfl rfl rfl) (co rfl (kpt rfl rfl h17 rfl) (Ch.nil (Fin.go ?_)))))
 refine Tr.cn rfl ?_ ?_ <;> intro h18 q18
 have hq1 := Nrm.nrm h18
 refine Tr.skip (Fin.go (Tr.seq (Tr.block (Tr.seq ?_))))
 have hvm := s9.val_in (n := ((m : Nat) : Int) - 1) (by omega)
 refine Tr.regT (tm rfl (tm rfl (tp rfl (okb_len rfl Tryz.underlying47 (vl rfl)) ?_)))
 refine tp rfl (ok_sub rfl (vl rfl) (vl rfl) ?hin) ?_; case hin => unfold InI; omega
 refine TO.efc 1 rfl rfl (by decide) (ef_callc rfl rfl (by decide) rfl (w_DNext (by omega) (by omega)) ⟨ke rfl, ke rfl, trivial⟩) (tm rfl (TO.nil (Fin.go (wk4 0 5 11 12 rfl (Tr.regX mixed [none, none, none, none, none, none, none, none, none, some (0, 0, false, 0), none, none, none, some (0, 0, false, 0), none, some (0, 0, true, 0), none, some (0, 0, true, 0)] (by kernel_rfl) ?_)))))
 iterate 4 refine xm rfl ?_
 refine xo rfl (fun _ => ok_add rfl (vl rfl) (vl rfl) ?hin) ?_; case hin => unfold InI; omega
 refine xm rfl (xm rfl ?_)
 refine xo rfl (fun _ => ok_add rfl (vl rfl) (vl rfl) ?hin) ?_; case hin => unfold InI; omega
 refine xo rfl (fun _ => okp_indexSl rfl Tryz.underlying47 sz29 (vl rfl) (vl rfl) (by omega) (by omega)) (xrd 0 rfl rfl (rd_loadA rfl agg29 sz29 (vl rfl) (cells_atG (f := rowX) (fun _ => rfl) (by omega)) rfl) (xm rfl (xm rfl (xo rfl (fun _ => okp_indexSl rfl Tryz.underlying47 sz29 (vl rfl) (vl rfl) (by omega) (by omega)) (xrd 0 rfl rfl (rd_loadA rfl agg29 sz29 (vl rfl) (cells_atG (f := rowX) (fun _ => rfl) (by omega)) rfl) (xo rfl (fun _ => okp_indexSl rfl Tryz.underlying47 sz29 (vl rfl) (vl rfl) (by omega) (by omega)) ?_))))))
 refine Cx.ef0 0 rfl rfl (ef_store rfl rfl (vl rfl) (VL.le (vl rfl) (agg_cellsP _)) sz29 rfl (by rw [cells_len (sz := 8) (fun _ => rfl)]; omega) (cells_setG (f := rowX) (fun _ => rfl) (by omega))) ?_
 refine xo rfl (fun _ => okp_indexSl rfl Tryz.underlying47 sz29 (vl rfl) (vl rfl) (by omega) (by omega)) ?_
 refine Cx.ef0 0 rfl rfl (ef_store rfl rfl (vl rfl) (VL.le (vl rfl) (agg_cellsP _)) sz29 rfl (by rw [cells_len (sz := 8) (fun _ => rfl)]; simp only [List.length_set]; omega) (cells_setG (f := rowX) (fun _ => rfl) (by simp only [List.length_set]; omega))) ?_
 refine Cx.nil ⟨rfl, ?_⟩
 refine FinX.done (AllC.cons (AllC.cons (AllC.cons (AllC.map _)))) (Fin.block (Fin.go (wk3 0 5 11 rfl (Tr.reg0 (cm rfl (csu rfl rfl rfl rfl (by omega) (cm rfl (Ch.nil (Fin.famD3V0 (q - 1) (_) (_)  (⟨⟨⟨(swap_permG (by omega) (by omega)).length_eq.trans hn1, by omega⟩, MovX.perm (swap_permG (by omega) (by omega)) hn2⟩, by omega⟩) ⟨⟨_, rfl, int_eq (by omega)⟩, ke rfl, ke rfl, trivial⟩ (fun _ _ h => h))))))))))
 have := h18
 refine Tr.exit (Fin.then_exit (Fin.then_exit (Fin.block_here (Fin.go (Tr.seq (Tr.eqC 0 (((ns.take m).map rowX).flatten ++ (((ns.drop m).map rowX).flatten ++ sp9.map is)) rfl (by rw [← List.append_assoc, ← List.flatten_append, ← List.map_append, List.take_append_drop]) ?_))))))
 have hnt : (ns.take m).length = m := by rw [List.length_take]; omega
 refine Tr.frzS (sz := 8) ((ns.take m).map rowX) 0 5 rfl rfl (Pr.le_of_eq (by rw [List.length_map, hnt])) (map_rows fun _ => rfl) (by rw [List.length_map]; omega) hm9 (by rw [List.length_append, flat_len (sz := 8) (map_rows fun _ => rfl), List.length_map, List.length_map, List.length_map, List.length_drop]; omega) ?_
 refine Tr.reg0 (cm rfl (cm rfl (Ch.nil (Fin.go (Tr.ret (Fin.closeD 1 _ rfl rfl (Fin.retY1 [_] rfl (RVal.tmp rfl (Pr.le_refl _)) ?_ (fun _ _ _ _ => rfl))))))))
 · exact Pr.le_trans (andIs_le _ _) (mov_ex hn2.take (by omega))
 refine cnt h17 rfl (cnt h17 rfl (cnt h17 rfl (co rfl (kpf rfl rfl h17 rfl) (Ch.nil (Fin.go (Tr.cond rfl (fun h => nomatch h) (fun _ => ?_)))))))
 refine Tr.exit (Fin.then_exit (Fin.then_exit (Fin.block_here (Fin.go (Tr.seq (Tr.eqC 0 (((ns.take m).map rowX).flatten ++ (((ns.drop m).map rowX).flatten ++ sp9.map is)) rfl (by rw [← List.append_assoc, ← List.flatten_append, ← List.map_append, List.take_append_drop]) ?_))))))
 have hnt : (ns.take m).length = m := by rw [List.length_take]; omega
 refine Tr.frzS (sz := 8) ((ns.take m).map rowX) 0 5 rfl rfl (Pr.le_of_eq (by rw [List.length_map, hnt])) (map_rows fun _ => rfl) (by rw [List.length_map]; omega) hm9 (by rw [List.length_append, flat_len (sz := 8) (map_rows fun _ => rfl), List.length_map, List.length_map, List.length_map, List.length_drop]; omega) ?_
 refine Tr.reg0 (cm rfl (cm rfl (Ch.nil (Fin.go (Tr.ret (Fin.closeD 1 _ rfl rfl (Fin.retY1 [_] rfl (RVal.tmp rfl (Pr.le_refl _)) ?_ (fun _ _ _ _ => rfl))))))))
 · exact Pr.le_trans (andIs_le _ _) (mov_ex hn2.take (by omega))
structure SetI (n : Int) (k : Nat) (l : List Int) : Prop where
  at_ : ∀ j, j < l.length → setAt n l j = true
  lt : ∀ x ∈ l, x < (k : Int)
  len : l.length ≤ k
theorem SetI.nil (n : Int) (k : Nat) : SetI n k [] := ⟨fun j hj => by simp at hj, fun x hx => by simp at hx, by simp⟩
theorem SetI.step {n : Int} {k : Nat} {l : List Int} (h : SetI n k l) : SetI n (k + 1) l := ⟨h.at_, fun x hx => by have := h.lt x hx; omega, by have := h.len; omega⟩
theorem SetI.snoc {n : Int} {k : Nat} {l : List Int} (h : SetI n k l) (hk : (k : Int) < n) : SetI n (k + 1) (l ++ [(k : Int)]) := by
  refine ⟨fun j hj => ?_, fun x hx => ?_, by have := h.len; simp; omega⟩
  · rw [List.length_append] at hj; simp at hj
    rcases Nat.lt_or_ge j l.length with hl | hl
    · have := h.at_ j hl
      unfold setAt at this ⊢
      rw [List.getElem?_append_left hl, List.getElem?_append_left (show j - 1 < l.length by omega)]; exact this
    · have : j = l.length := by omega
      subst this
      unfold setAt
      rw [List.getElem?_append_right (Nat.le_refl _), Nat.sub_self]
      rcases Nat.eq_zero_or_pos l.length with hz | hz
      · obtain rfl := List.eq_nil_of_length_eq_zero hz
        simp; omega
      · obtain ⟨y, hy⟩ := Cp.at_ (l := l) (k := l.length - 1) (by omega)
        rw [List.getElem?_append_left (show l.length - 1 < l.length by omega), hy]
        have := h.lt y (List.mem_of_getElem? hy)
        simp; omega
  · rcases List.mem_append.1 hx with hx | hx
    · have := h.lt x hx; omega
    · simp at hx; subst hx; omega
theorem SetI.set {n : Int} {k : Nat} {l : List Int} (h : SetI n k l) : setB n l = true := allI_iff.2 h.at_

theorem w_mvSet {b : Nat} {s : DS} {n : Int} (hn : n ≤ 1000000) : FunM Tryz.prog 30 [ptr b 0, int n] (Cp.ex fun l : List Int => fact (setB n l = true) (ints l)) (diceS b s) (fun _ => diceEx 101 b) := by
 refine FunM.of Tryz.func30 rfl rfl (by exact Nat.le_of_ble_eq_true rfl) fun M0 w0 S rs M1 w1 => ?_
 refine Tr.seq (Tr.reg0 (cm rfl (Ch.nil (Fin.go (Tr.seq (Tr.reg0 (cm rfl (Ch.nil (Fin.go (Tr.seq (Tr.seq (Tr.reg0 (cm rfl ?_)))))))))))))
 refine Ch.nil (Fin.go (Tr.block (Tr.addnil 3 1 (Tr.loopD3V1 [(0, _), (1, _)] ⟨ke rfl, ke rfl, trivial⟩ (fun (k : Nat) (l : List Int) (s2 : DS) v => [(6, int ((k : Nat) : Int)), (5, andIs v (ints l))]) (fun (k : Nat) (l : List Int) (s2 : DS) v => Hp M0 w0 S (appRes 3 1 v :: diceS b s2 :: extRes M1 w1 :: rs)) (fun (k : Nat) (l : List Int) (s2 : DS) => SetI n k l) (fun (k : Nat) (l : List Int) (s2 : DS) => (n - (k : Nat)).toNat) (0) ([]) (_) (.slice none 0 0) (SetI.nil _ _) ⟨ke rfl, ⟨_, rfl, own_nil rfl⟩, trivial⟩ (fun _ _ h => h) ?_))))
 rintro k l s2 v hI
 refine Tr.seq (Tr.seq (Tr.reg0 (cm rfl (cm rfl (co rfl (ki rfl rfl rfl rfl) (Ch.nil (Fin.go ?_)))))))
 refine Tr.cn rfl ?_ ?_ <;> intro h1 q1
 have hkn : ((k : Nat) : Int) < n := Nrm.nrm h1
 have hll := hI.len
 refine Tr.skip (Fin.go (Tr.seq (Tr.block (Tr.seq (Tr.regT (tm rfl (TO.efc 1 rfl rfl (by decide) (ef_callc rfl rfl (by decide) rfl (w_DNext (by omega) (by omega)) ⟨ke rfl, ke rfl, trivial⟩) (tp rfl (ki rfl rfl rfl rfl) (TO.nil (Fin.go ?_))))))))))
 refine Tr.cn rfl ?_ ?_ <;> intro h2 q2
 refine Tr.regT (tm rfl (tm rfl (tp rfl (ok_buildSlice (xs := [.tmp 16]) (rows := [[_]]) rfl rfl Tryz.underlying59 sz3 z3 rfl (by decide) ⟨⟨(by exact rfl), (VL.le (vl rfl) (one_cellsP _))⟩, trivial⟩ (by decide)) ?_)))
 refine TO.efs 0 rfl rfl (by decide) (ef_append rfl rfl (by decide) rfl Tryz.underlying59 sz3 by3 z3 rfl (by decide) ⟨_, rfl, andIs_le _ _⟩ ⟨_, rfl, full_le _ _⟩ (by simp only [List.length_append, List.length_map, List.length_cons, List.length_nil]; unfold maxLen; omega) (by simp only [List.length_append, List.length_map, List.length_cons, List.length_nil]; omega) (appR_is (by exact List.Mem.head _) ⟨_, rfl, andIs_is _ _⟩)) (fun v1 => ?_)
 refine tm rfl (TO.nil (Fin.block (Fin.go (wk4 0 1 5 6 rfl (Tr.reg0 (cm rfl (cad rfl rfl rfl rfl (by omega) (cm rfl (Ch.nil ?_)))))))))
 exact Fin.famD3V1 (k + 1) (l ++ [((k : Nat) : Int)]) (_) v1 (⟨hI.snoc hkn, by omega⟩) ⟨⟨_, rfl, int_succ k⟩, ⟨_, rfl, own_le (by rw [List.map_append]; rfl)⟩, ke rfl, ke rfl, trivial⟩ (fun _ _ h => h)
 refine Tr.skip (Fin.block (Fin.go (Tr.reg0 (cm rfl (cad rfl rfl rfl rfl (by omega) (cm rfl (Ch.nil (Fin.famD3V1 (k + 1) (l) (_) v (⟨hI.step, by omega⟩) ⟨⟨_, rfl, int_succ k⟩, ke rfl, ke rfl, ke rfl, trivial⟩ (fun _ _ h => h)))))))))
 have := h1
 refine Tr.exit (Fin.then_exit (Fin.then_exit (Fin.block_here (Fin.go (Tr.seq (Tr.reg0 (cm rfl (cm rfl (Ch.nil (Fin.go (Tr.ret (Fin.closeD 1 _ rfl rfl (Fin.retY1 [_] rfl (RVal.tmp rfl (Pr.le_refl _)) ?_ (fun _ _ _ _ => rfl))))))))))))))
 · exact ex_in l (fact_in hI.set (andIs_le _ _))
end Go.Proofs.YtppeeogffbpcbaaGreat
namespace Go.Proofs.YtppeeogffbpcbaaGreat
open Go Go.RowKit Cp

def usL : List (Int × Int) := [(2, 0), (1, 0), (5, 2048), (16, 128), (3, 0), (15, 168)]
def usO (v : Int) : Int × Int := usL[v.toNat]?.getD (2, 0)
theorem us_at {v : Int} (h : 0 ≤ v ∧ v < 6) : (usL.map fun u => [int u.1, int u.2])[v.toNat]? = some [int (usO v).1, int (usO v).2] := by
  have hl : v.toNat < usL.length := by show v.toNat < 6; omega
  unfold usO; rw [List.getElem?_map, List.getElem?_eq_getElem hl]; rfl
theorem us_all : ∀ u ∈ usL, strength u.1 u.2 > 0 := by decide +kernel
theorem us_ok (v : Int) : strength (usO v).1 (usO v).2 > 0 := by
  unfold usO
  cases h : usL[v.toNat]? with
  | none => decide +kernel
  | some u => exact us_all u (List.mem_of_getElem? h)
def linksF : Nat → DS → Int → List Lnk → List Lnk × Int × DS
  | 0, s, day, l => (l, day, s)
  | k + 1, s, day, l => linksF k s.adv.adv (day + 1 + s.adv.of [5, 30, 0, 100]) (l ++ [⟨(usO (s.val 6)).1, (usO (s.val 6)).2, day⟩])
abbrev itmRun (s : DS) : List Lnk × Int × DS := linksF (1 + s.adv.adv.adv.val 3).toNat s.adv.adv.adv.adv (s.adv.adv.val 20) []
def itemF (s : DS) (name : List UInt8) : Itm := ⟨name, 1 + s.val 2, 1 + s.adv.val 4, (itmRun s).1, ((itmRun s).1[0]?.getD zeroL).day + (itmRun s).2.2.of [50, 300, 0, 3000]⟩
def itemS (s : DS) : DS := (itmRun s).2.2.adv
/-- What such links are. -/
structure LnkI (l : List Lnk) (day : Int) : Prop where
  lo : 0 ≤ day
  hi : day ≤ 20 + 101 * (l.length : Nat)
  at_ : ∀ j, j < l.length → linkAt l j = true
  lt : ∀ x ∈ l, x.day < day
theorem lnk_snoc {l : List Lnk} {day d : Int} {u : Int × Int} (h : LnkI l day) (h3 : l.length ≤ 3) (hu : strength u.1 u.2 > 0) (hd : 0 ≤ d ∧ d ≤ 100) : LnkI (l ++ [⟨u.1, u.2, day⟩]) (day + 1 + d) := by
  have h0 := h.lo; have h1 := h.hi
  refine ⟨by omega, by rw [List.length_append]; simp; omega, fun j hj => ?_, fun x hx => ?_⟩
  · rw [List.length_append] at hj; simp at hj
    rcases Nat.lt_or_ge j l.length with hl | hl
    · have := h.at_ j hl
      unfold linkAt at this ⊢
      rw [List.getElem?_append_left hl, List.getElem?_append_left (show j - 1 < l.length by omega)]; exact this
    · have : j = l.length := by omega
      subst this
      unfold linkAt
      rw [List.getElem?_append_right (Nat.le_refl _), Nat.sub_self]
      rcases Nat.eq_zero_or_pos l.length with hz | hz
      · obtain rfl := List.eq_nil_of_length_eq_zero hz
        simp [hu]; simp at h1; omega
      · obtain ⟨y, hy⟩ := at_ (l := l) (k := l.length - 1) (by omega)
        rw [List.getElem?_append_left (show l.length - 1 < l.length by omega), hy]
        have := h.lt y (List.mem_of_getElem? hy)
        simp [hu]; omega
  · rcases List.mem_append.1 hx with hx | hx
    · have := h.lt x hx; omega
    · simp at hx; subst hx; show day < _; omega
theorem of_530 (s : DS) : 0 ≤ s.of [5, 30, 0, 100] ∧ s.of [5, 30, 0, 100] ≤ 100 := by have := s.of_mem (l := [5, 30, 0, 100]) (by simp); simp at this; omega
theorem of_503 (s : DS) : 0 ≤ s.of [50, 300, 0, 3000] ∧ s.of [50, 300, 0, 3000] ≤ 3000 := by have := s.of_mem (l := [50, 300, 0, 3000]) (by simp); simp at this; omega
theorem linksF_ok : ∀ (k : Nat) (s : DS) (day : Int) (l : List Lnk), LnkI l day → l.length + k ≤ 3 → LnkI (linksF k s day l).1 (linksF k s day l).2.1 ∧ (linksF k s day l).1.length = l.length + k
  | 0, s, day, l, h, _ => ⟨h, rfl⟩
  | k + 1, s, day, l, h, hk => by
    have := linksF_ok k s.adv.adv (day + 1 + s.adv.of [5, 30, 0, 100]) (l ++ [⟨(usO (s.val 6)).1, (usO (s.val 6)).2, day⟩]) (lnk_snoc h (by omega) (us_ok _) (of_530 _)) (by simp; omega)
    refine ⟨this.1, ?_⟩
    show (linksF k _ _ _).1.length = _
    rw [this.2]; simp; omega
/-- What such an item is. -/
structure ItmS (x : Itm) : Prop where
  ok : itemB x = true
  name : x.name.length ≤ 32
  links : x.links.length ≤ 3
theorem item_ok {s : DS} {name : List UInt8} (hn : named name = true) : ItmS (itemF s name) := by
  have h2 := s.val_in (n := 2) (by omega)
  have h4 := s.adv.val_in (n := 4) (by omega)
  have h20 := s.adv.adv.val_in (n := 20) (by omega)
  have h3 := s.adv.adv.adv.val_in (n := 3) (by omega)
  have hI : LnkI [] (s.adv.adv.val 20) := ⟨by omega, by simp; omega, fun j hj => by simp at hj, fun x hx => by simp at hx⟩
  obtain ⟨hL, hl⟩ := linksF_ok (1 + s.adv.adv.adv.val 3).toNat s.adv.adv.adv.adv (s.adv.adv.val 20) [] hI (by simp; omega)
  simp only [List.length_nil, Nat.zero_add] at hl
  have hlen : (itmRun s).1.length = (1 + s.adv.adv.adv.val 3).toNat := hl
  have hu := of_503 (itmRun s).2.2
  obtain ⟨c, hc⟩ := at_ (l := (itmRun s).1) (k := 0) (by omega)
  have hg := getD_at (d := zeroL) hc
  have hc1 := hL.lt c (List.mem_of_getElem? hc)
  have hc2 := hL.hi
  refine ⟨item_iff.2 ⟨hn, ?_, ?_, ?_, ?_, ?_, hL.at_, ?_, ?_⟩, named_len hn, ?_⟩
  · show 1 + s.val 2 = 1 ∨ 1 + s.val 2 = 2; omega
  · show 1 ≤ 1 + s.adv.val 4; omega
  · show 1 + s.adv.val 4 ≤ 4; omega
  · show 1 ≤ (itmRun s).1.length; omega
  · show (itmRun s).1.length ≤ 8; omega
  · show ((itmRun s).1[0]?.getD zeroL).day ≤ ((itmRun s).1[0]?.getD zeroL).day + _; omega
  · show ((itmRun s).1[0]?.getD zeroL).day + _ ≤ 40000; rw [hg]; omega
  · show (itmRun s).1.length ≤ 3; omega

theorem w_ItemF {b : Nat} {s : DS} {name : List UInt8}  : FunM Tryz.prog 67 [ptr b 0, str name] (agg (rowIt (itemF s name))) (diceS b s) (fun _ => diceS b (itemS s)) := by
 refine FunM.of Tryz.func67 rfl rfl (by exact Nat.le_of_ble_eq_true rfl) fun M0 w0 S rs M1 w1 => ?_
 have hv2 := s.val_in (n := 2) (by omega)
 have hv4 := s.adv.val_in (n := 4) (by omega)
 have hv20 := s.adv.adv.val_in (n := 20) (by omega)
 have hv3 := s.adv.adv.adv.val_in (n := 3) (by omega)
 refine Tr.seq (Tr.regT ?_)
 refine TO.alloc rfl rfl (by decide) rfl z107 zo107 (fun b1 => ?_)
 refine ao ?_
 refine ao ?_
 refine TO.efc 1 rfl rfl (by decide) (ef_callc rfl rfl (by decide) rfl (w_DNext (by omega) (by omega)) ⟨ke rfl, ke rfl, trivial⟩) ?_
 refine ao ?_
 refine TO.efc 1 rfl rfl (by decide) (ef_callc rfl rfl (by decide) rfl (w_DNext (by omega) (by omega)) ⟨ke rfl, ke rfl, trivial⟩) ?_
 refine ao ?_
 refine TO.alloc rfl rfl (by decide) rfl z107 zo107 (fun b2 => ?_)
 refine TO.store_all 0 rfl rfl rfl (vl rfl) (VL.le (vl rfl) (agg_cellsP _)) rfl sz107 rfl rfl ?_
 refine ao ?_
 refine ao ?_
 refine TO.efc 2 rfl rfl (by decide) (ef_callc rfl rfl (by decide) rfl (w_DNext (by omega) (by omega)) ⟨ke rfl, ke rfl, trivial⟩) ?_
 refine ao ?_
 refine wk4 0 4 5 6 rfl ?_
 refine ao ?_
 refine TO.efc 2 rfl rfl (by decide) (ef_callc rfl rfl (by decide) rfl (w_DNext (by omega) (by omega)) ⟨ke rfl, ke rfl, trivial⟩) ?_
 refine ao ?_
 refine Tr.block (Tr.reC 0 [str name, int (1 + s.val 2), int (1 + s.adv.val 4), andIs (.slice none 0 0) (lnks []), is (.int .i64 0)] rfl ⟨Pr.le_refl _, Pr.le_refl _, Pr.le_refl _, own_nil rfl, Pr.le_refl _, trivial⟩ (Tr.addnil 152 3 ?_))
 refine Tr.loopD4V1 [(0, _), (4, _), (5, _)] ⟨ke rfl, ke rfl, ke rfl, trivial⟩ (fun (k : Int) (day : Int) (l : List Lnk) (s2 : DS) v => [(7, int k), (6, int day)]) (fun (k : Int) (day : Int) (l : List Lnk) (s2 : DS) v => Hp M0 w0 S (appRes 152 3 v :: cellsRes true b2 107 [str name, int (1 + s.val 2), int (1 + s.adv.val 4), andIs v (lnks l), is (.int .i64 0)] :: cellsRes true b1 107 (([.string (ByteArray.mk #[]), .int .i64 0, .int .i64 0, .slice none 0 0, .int .i64 0] : List Value).map is) :: diceS b s2 :: extRes M1 w1 :: rs)) (fun (k : Int) (day : Int) (l : List Lnk) (s2 : DS) => (0 ≤ k ∧ k + l.length ≤ 3 ∧ 1 ≤ k + l.length ∧ LnkI l day) ∧ linksF k.toNat s2 day l = itmRun s) (fun (k : Int) (day : Int) (l : List Lnk) (s2 : DS) => k.toNat) (_) (_) ([]) (_) (.slice none 0 0) (⟨⟨by omega, by simp; omega, by simp; omega, ⟨by omega, by simp; omega, fun j hj => by simp at hj, fun x hx => by simp at hx⟩⟩, rfl⟩) ⟨ke rfl, ke rfl, trivial⟩ (fun _ _ h => h) ?_
 rintro k day l s2 v ⟨⟨hk0, hk1, hk2, hL⟩, hR⟩
 have hL0 := hL.lo
 have hL1 := hL.hi
 have hof := of_530 s2.adv
 refine ac ?_
 refine Tr.cn rfl ?_ ?_ <;> intro h1 q1
 have hk3 : 0 < k := of_decide_eq_true h1
 have hv6 := s2.val_in (n := 6) (by omega)
 refine ac ?_
 refine ao ?_
 refine TO.efc 3 rfl rfl (by decide) (ef_callc rfl rfl (by decide) rfl (w_DNext (by omega) (by omega)) ⟨ke rfl, ke rfl, trivial⟩) ?_
 refine tp rfl (ok_indexAddr rfl Tryz.underlying114 sz24 ⟨_, rfl, full_le _ _⟩ (vl rfl) (by omega) (show (usL.map fun u => [int u.1, int u.2])[_]? = _ from us_at hv6)) ?_
 refine tp rfl (ok_loadA rfl agg24 sz24 (vl rfl) rfl rfl) ?_
 refine TO.alloc rfl rfl (by decide) rfl z24 zo24 (fun b3 => ?_)
 refine sf 0 8 ⟨rfl, rfl, rfl⟩ rfl rfl rfl rfl ?_
 refine ao ?_
 refine wk6 0 4 5 6 7 8 rfl ?_
 refine ao ?_
 refine TO.efs 0 rfl rfl (by decide) (ef_append rfl rfl (by decide) rfl Tryz.underlying105 sz152 by152 z152 rfl (by decide) ⟨_, rfl, andIs_le _ _⟩ ⟨_, rfl, full_le _ _⟩ (by simp only [List.length_append, List.length_map, List.length_cons, List.length_nil]; unfold maxLen; omega) (by simp only [List.length_append, List.length_map, List.length_cons, List.length_nil]; omega) (appR_is (by exact List.Mem.head _) ⟨_, rfl, andIs_is _ _⟩)) (fun v1 => ?_)
 refine tp rfl (okp_fieldAddr rfl fo107_3 (vl rfl)) (TO.ef0 1 rfl rfl (ef_store rfl rfl (vl rfl) (VL.le (vl rfl) (one_cellsP _)) sz105 rfl (by exact Nat.le_of_ble_eq_true rfl) rfl) ?_)
 refine ao ?_
 refine wk5 0 4 5 6 7 rfl ?_
 refine ao ?_
 refine TO.efc 3 rfl rfl (by decide) (ef_callc rfl rfl (by decide) rfl (w_DOf (l := [5, 30, 0, 100]) (by simp) (by simp)) ⟨ke rfl, ⟨_, rfl, full_le _ _⟩, trivial⟩) ?_
 refine ao ?_
 refine ac ?_
 refine Fin.reC 1 [str name, int (1 + s.val 2), int (1 + s.adv.val 4), andIs v1 (lnks (l ++ [(⟨(usO (s2.val 6)).1, (usO (s2.val 6)).2, day⟩ : Lnk)])), is (.int .i64 0)] rfl ⟨Pr.le_refl _, Pr.le_refl _, Pr.le_refl _, own_le (by rw [List.map_append]; rfl), Pr.le_refl _, trivial⟩ ?_
 exact Fin.famD4V1 (k - 1) (_) (l ++ [(⟨(usO (s2.val 6)).1, (usO (s2.val 6)).2, day⟩ : Lnk)]) (_) v1 (⟨⟨⟨by omega, by simp; omega, by simp; omega, lnk_snoc hL (by omega) (us_ok _) (of_530 _)⟩, by rw [← hR, show k.toNat = (k - 1).toNat + 1 by omega]; rfl⟩, by omega⟩) ⟨⟨_, rfl, int_eq (by omega)⟩, ⟨_, rfl, int_eq (by omega)⟩, ke rfl, ke rfl, ke rfl, trivial⟩ (fun _ _ h => h)
 have hk3 : ¬ 0 < k := of_decide_eq_false h1
 obtain rfl : k = 0 := by omega
 obtain ⟨c0, hc0⟩ := at_ (l := l) (k := 0) (by omega)
 have hg0 := getD_at (d := zeroL) hc0
 have hlt0 := hL.lt c0 (List.mem_of_getElem? hc0)
 have hlo0 : 0 ≤ c0.day := by have h_ := hL.at_ 0 (lt_of_at hc0); unfold linkAt at h_; rw [hg0] at h_; simp at h_; omega
 have hof2 := of_503 s2
 have hR1 : (itmRun s).1 = l := by rw [← hR]; rfl
 obtain rfl : s2 = (itmRun s).2.2 := by rw [← hR]; rfl
 refine ac ?_
 refine Tr.seq (Tr.rx ?_)
 refine ay ?_
 refine xo rfl (fun _ => ok_indexAddr rfl Tryz.underlying105 sz152 ⟨_, rfl, andIs_le _ _⟩ (vl rfl) (by omega) (row_at (k := 0) hc0)) ?_
 refine ay ?_
 refine xo rfl (fun _ => ok_buildSlice (xs := [.const (.int .i64 (50)), .const (.int .i64 (300)), .const (.int .i64 (0)), .const (.int .i64 (3000))]) (rows := [[_], [_], [_], [_]]) rfl rfl Tryz.underlying22 sz3 z3 rfl (by decide) ⟨⟨(by exact rfl), (VL.le (vl rfl) (one_cellsP _))⟩, ⟨⟨(by exact rfl), (VL.le (vl rfl) (one_cellsP _))⟩, ⟨⟨(by exact rfl), (VL.le (vl rfl) (one_cellsP _))⟩, ⟨⟨(by exact rfl), (VL.le (vl rfl) (one_cellsP _))⟩, trivial⟩⟩⟩⟩ (by decide)) ?_
 refine Cx.ef 3 rfl rfl (by decide) (ef_callc rfl rfl (by decide) rfl (w_DOf (l := [50, 300, 0, 3000]) (by simp) (by simp)) ⟨ke rfl, ⟨_, rfl, full_le _ _⟩, trivial⟩) ?_
 refine ay ?_
 refine Cx.nil ⟨by kernel_rfl, ?_⟩
 refine FinX.done al5 (Fin.go (wk2 4 5 rfl ?_))
 refine ao ?_
 refine TO.store_all 2 rfl rfl rfl (vl rfl) (VL.le (vl rfl) (agg_cellsP _)) rfl sz107 rfl rfl ?_
 refine ao ?_
 refine Tr.ret (Fin.retY1 [_, _, _] rfl (RVal.cell 2 rfl rfl agg107 sz107 rfl (Pr.le_refl _)) ?_ (fun _ _ _ _ => rfl))
 · exact agg_le ⟨Pr.le_refl _, Pr.le_refl _, Pr.le_refl _, Pr.le_trans (andIs_le _ _) (Pr.le_of_eq (by show _ = lnks (itmRun s).1; rw [hR1])), int_eq (by show _ = ((itmRun s).1[0]?.getD zeroL).day + _; rw [hR1, hg0]), trivial⟩
end Go.Proofs.YtppeeogffbpcbaaGreat
namespace Go.Proofs.YtppeeogffbpcbaaGreat
open Go Go.RowKit Cp

/-- Edges, all ahead of (i, j). -/
structure EdI (n : Nat) (i j : Int) (l : List Edg) : Prop where
  at_ : ∀ k, k < l.length → edgeAt n l k = true
  lt : ∀ g ∈ l, g.client < i ∨ (g.client = i ∧ g.server < j)
theorem EdI.nil (n : Nat) (i j : Int) : EdI n i j [] := ⟨fun k hk => by simp at hk, fun g hg => by simp at hg⟩
theorem EdI.step {n : Nat} {i j : Int} {l : List Edg} (h : EdI n i j l) : EdI n i (j + 1) l := ⟨h.at_, fun g hg => by have := h.lt g hg; omega⟩
theorem EdI.row {n : Nat} {i j : Int} {l : List Edg} (h : EdI n i j l) : EdI n (i + 1) 0 l := ⟨h.at_, fun g hg => by have := h.lt g hg; omega⟩
theorem EdI.snoc {n : Nat} {i j : Int} {l : List Edg} (h : EdI n i j l) (hi : 0 ≤ i ∧ i < n) (hj : 0 ≤ j ∧ j < n) (hn : i ≠ j) : EdI n i (j + 1) (l ++ [⟨i, j⟩]) := by
  refine ⟨fun k hk => ?_, fun g hg => ?_⟩
  · rw [List.length_append] at hk; simp at hk
    rcases Nat.lt_or_ge k l.length with hl | hl
    · have := h.at_ k hl
      unfold edgeAt at this ⊢
      rw [List.getElem?_append_left hl, List.getElem?_append_left (show k - 1 < l.length by omega)]; exact this
    · have : k = l.length := by omega
      subst this
      unfold edgeAt
      rw [List.getElem?_append_right (Nat.le_refl _), Nat.sub_self]
      rcases Nat.eq_zero_or_pos l.length with hz | hz
      · obtain rfl := List.eq_nil_of_length_eq_zero hz
        simp; omega
      · obtain ⟨y, hy⟩ := Cp.at_ (l := l) (k := l.length - 1) (by omega)
        rw [List.getElem?_append_left (show l.length - 1 < l.length by omega), hy]
        have := h.lt y (List.mem_of_getElem? hy)
        simp; omega
  · rcases List.mem_append.1 hg with hg | hg
    · have := h.lt g hg; omega
    · simp at hg; subst hg; right; exact ⟨rfl, by show j < j + 1; omega⟩
theorem names_lt : ∀ i, i < 2 → Lib.compareBytes (nameL[i]?.getD []) (nameL[i + 1]?.getD []) = -1 := by decide +kernel
/-- What such an estate is. -/
structure SndSt (e : Est) : Prop where
  n2 : 2 ≤ e.eps.length
  n3 : e.eps.length ≤ 3
  snd : SndL e.eps
  ed : ∀ k, k < e.edges.length → edgeAt e.eps.length e.edges k = true
  g1 : 1 ≤ e.edges.length
  g3 : e.edges.length ≤ 3
  it : ∀ x ∈ e.items, ItmS x
  i2 : e.items.length ≤ 2
theorem SndSt.ok {e : Est} (h : SndSt e) : estB e = true := by
  have h3 := h.n3; have g3 := h.g3; have i2 := h.i2
  refine est_iff.2 ⟨fun j hj => ?_, by omega, h.ed, by omega, List.all_eq_true.2 fun x hx => (h.it x hx).ok, by omega⟩
  obtain ⟨x, hx⟩ := at_ hj
  have hs := h.snd j x hx
  unfold epAt
  rw [hx, Option.getD_some, eptB_iff.2 (sndE_ok hs), Bool.true_and, Bool.or_eq_true, decide_eq_true_eq, decide_eq_true_eq]
  rcases Nat.eq_zero_or_pos j with hz | hz
  · exact .inl hz
  · right
    obtain ⟨y, hy⟩ := at_ (l := e.eps) (k := j - 1) (by omega)
    have hs2 := h.snd _ y hy
    rw [hy, Option.getD_some]
    have := names_lt (j - 1) (by omega)
    rw [hs2.name, show j - 1 + 1 = j by omega, hs.name] at this
    exact this
theorem SndSt.fits {e : Est} (h : SndSt e) : e.fits := by
  have h3 := h.n3; have g3 := h.g3; have i2 := h.i2
  refine ⟨fun x hx => ?_, fun x hx => by have := (h.it x hx).name; unfold maxLen; omega, by omega, by omega, by omega⟩
  obtain ⟨i, hi⟩ := List.getElem?_of_mem hx
  exact ⟨sndE_fits (h.snd i x hi), sndE_small (h.snd i x hi)⟩
abbrev backup : List UInt8 := [98, 97, 99, 107, 117, 112]
abbrev deed : List UInt8 := [100, 101, 101, 100]
theorem word_ok (s : DS) : named (wordOf s [backup, deed]) = true := by
  have h := s.val_in (n := 2) (by omega)
  unfold wordOf
  have : s.val (([backup, deed] : List (List UInt8)).length : Nat) = 0 ∨ s.val (([backup, deed] : List (List UInt8)).length : Nat) = 1 := by show s.val 2 = 0 ∨ s.val 2 = 1; omega
  rcases this with h | h <;> rw [h] <;> decide
theorem its_snoc {l : List Itm} {y : Itm} (h : ∀ x ∈ l, ItmS x) (hy : ItmS y) : ∀ x ∈ l ++ [y], ItmS x := by
  intro x hx
  rcases List.mem_append.1 hx with hx | hx
  · exact h x hx
  · simp at hx; subst hx; exact hy

theorem w_SoundS {b : Nat} {s : DS}  : FunM Tryz.prog 13 [ptr b 0] (Cp.ex fun e : Est => fact (SndSt e) (agg (rowSt e))) (diceS b s) (fun _ => diceEx 101 b) := by
 refine FunM.of Tryz.func13 rfl rfl (by exact Nat.le_of_ble_eq_true rfl) fun M0 w0 S rs M1 w1 => ?_
 have hv2 := s.val_in (n := 2) (by omega)
 have hnl : (nameL.take (2 + s.val 2).toNat).length = (2 + s.val 2).toNat := by rw [List.length_take]; show min _ 3 = _; omega
 refine Tr.seq (Tr.regT ?_)
 refine TO.alloc rfl rfl (by decide) rfl z41 zo41 (fun b1 => ?_)
 refine TO.nil (Fin.go (Tr.seq (Tr.regT ?_)))
 refine TO.alloc rfl rfl (by decide) rfl z41 zo41 (fun b2 => ?_)
 refine TO.nil (Fin.go (Tr.seq (Tr.regT (tp rfl (ok_buildSlice (xs := [.const (.string ⟨[97, 112, 112].toArray⟩), .const (.string ⟨[100, 98].toArray⟩), .const (.string ⟨[119, 101, 98].toArray⟩)]) (rows := [[_], [_], [_]]) rfl rfl Tryz.underlying74 sz9 z9 rfl (by decide) ⟨⟨(by exact rfl), (VL.le (vl rfl) (one_cellsP _))⟩, ⟨⟨(by exact rfl), (VL.le (vl rfl) (one_cellsP _))⟩, ⟨⟨(by exact rfl), (VL.le (vl rfl) (one_cellsP _))⟩, trivial⟩⟩⟩ (by decide)) ?_))))
 refine tm rfl (TO.efc 2 rfl rfl (by decide) (ef_callc rfl rfl (by decide) rfl (w_DNext (by omega) (by omega)) ⟨ke rfl, ke rfl, trivial⟩) ?_)
 refine tp rfl (ok_add rfl (vl rfl) (vl rfl) ?hin) ?_; case hin => unfold InI; omega
 refine tp rfl (ok_sliceTo rfl Tryz.underlying74 sz9 ⟨_, rfl, full_le _ _⟩ (vl rfl) (by omega) (by simp; omega)) ?_
 refine tm rfl (TO.nil (Fin.go (Tr.seq (Tr.seq (Tr.reg0 (cm rfl (co rfl (ok_len rfl Tryz.underlying74 (vl rfl)) (cm rfl (Ch.nil (Fin.go (Tr.block ?_)))))))))))
 refine Tr.re 16 rfl (Pr.le_of_eq (by show slice 1 (List.take _ (nameL.map fun t => [str t])) = _; rw [← List.map_take]) : Pr.le _ (txts (nameL.take (2 + s.val 2).toNat))) ?_
 refine Tr.re 17 rfl (int_eq (by simp; rfl) : Pr.le _ (int (((nameL.take (2 + s.val 2).toNat).length : Nat) : Int))) ?_
 refine Tr.reC 0 [andIs (.slice none 0 0) (slice 9 (([] : List Ept).map rowEp)), is (.slice none 0 0), is (.slice none 0 0)] rfl ⟨own_nil rfl, Pr.le_refl _, Pr.le_refl _, trivial⟩ (Tr.addnil 32 9 (Tr.loopD3V1 [(0, _), (2, _), (3, _), (4, _), (16, _), (17, _)] ⟨ke rfl, ke rfl, ke rfl, ke rfl, ke rfl, ke rfl, trivial⟩ (fun (k : Nat) (es : List Ept) (s2 : DS) v => [(18, int ((k : Nat) : Int))]) (fun (k : Nat) (es : List Ept) (s2 : DS) v => Hp M0 w0 S (appRes 32 9 v :: cellsRes true b2 41 [andIs v (slice 9 (es.map rowEp)), is (.slice none 0 0), is (.slice none 0 0)] :: cellsRes true b1 41 (([.slice none 0 0, .slice none 0 0, .slice none 0 0] : List Value).map is) :: diceS b s2 :: extRes M1 w1 :: rs)) (fun (k : Nat) (es : List Ept) (s2 : DS) => k ≤ (2 + s.val 2).toNat ∧ es.length = k ∧ SndL es) (fun (k : Nat) (es : List Ept) (s2 : DS) => (2 + s.val 2).toNat - k) (0) ([]) (_) (.slice none 0 0) (⟨by omega, rfl, fun i e h => by simp at h⟩) ⟨ke rfl, trivial⟩ (fun _ _ h => h) ?_))
 rintro k es s2 v ⟨hk1, hk2, hk3⟩
 refine Tr.seq (Tr.reg0 (co rfl (ki rfl rfl rfl rfl) (Ch.nil (Fin.go (Tr.seq ?_)))))
 refine Tr.cn rfl ?_ ?_ <;> intro h1 q1
 have hkn : k < (2 + s.val 2).toNat := by have := Nrm.nrm h1; rw [hnl] at this; omega
 obtain ⟨nm, hnm⟩ := at_ (l := nameL.take (2 + s.val 2).toNat) (k := k) (by omega)
 have hnm2 : nameL[k]? = some nm := take_get hnm
 have hso := sopt_len (s2.adv.val 3)
 have hk3_ : k < 3 := lt_of_at hnm2
 have hvs := s2.adv.val_in (n := 3) (by omega)
 have hof := of_334 s2
 refine Tr.skip (Fin.go (Tr.seq (Tr.block (Tr.seq (Tr.reg0 (cm rfl (co rfl (ok_indexAddr rfl Tryz.underlying74 sz9 (vl rfl) (vl rfl) (by omega) (row_at hnm)) (co rfl (kl1 rfl one9 rfl) (cm rfl (cm rfl (Ch.nil (Fin.go (Tr.seq (Tr.pad ?_))))))))))))))
 refine Tr.regX mixed [none, none, none, some (0, 4, true, 0), none, none, none, none, none, some (0, 4, true, 0), none, none, none, some (0, 4, true, 0), none, none, none, some (0, 4, true, 0), none, some (0, 0, true, 7), some (7, 0, true, 7)] (by kernel_rfl) (xm rfl (xm rfl (xo rfl (fun _ => ok_buildSlice (xs := [.const (.int .i64 (3)), .const (.int .i64 (3)), .const (.int .i64 (4))]) (rows := [[_], [_], [_]]) rfl rfl Tryz.underlying22 sz3 z3 rfl (by decide) ⟨⟨(by exact rfl), (VL.le (vl rfl) (one_cellsP _))⟩, ⟨⟨(by exact rfl), (VL.le (vl rfl) (one_cellsP _))⟩, ⟨⟨(by exact rfl), (VL.le (vl rfl) (one_cellsP _))⟩, trivial⟩⟩⟩ (by decide)) ?_)))
 refine Cx.ef 4 rfl rfl (by decide) (ef_callc rfl rfl (by decide) rfl (w_DOf (l := [3, 3, 4]) (by simp) (by simp)) ⟨ke rfl, ⟨_, rfl, full_le _ _⟩, trivial⟩) ?_
 refine xo rfl (fun _ => ok_buildSlice (xs := [.const (.int .i64 (10)), .const (.int .i64 (8)), .const (.int .i64 (2))]) (rows := [[_], [_], [_]]) rfl rfl Tryz.underlying22 sz3 z3 rfl (by decide) ⟨⟨(by exact rfl), (VL.le (vl rfl) (one_cellsP _))⟩, ⟨⟨(by exact rfl), (VL.le (vl rfl) (one_cellsP _))⟩, ⟨⟨(by exact rfl), (VL.le (vl rfl) (one_cellsP _))⟩, trivial⟩⟩⟩ (by decide)) ?_
 refine xo rfl (fun _ => ok_buildSlice (xs := [.const (.int .i64 (8)), .const (.int .i64 (2))]) (rows := [[_], [_]]) rfl rfl Tryz.underlying22 sz3 z3 rfl (by decide) ⟨⟨(by exact rfl), (VL.le (vl rfl) (one_cellsP _))⟩, ⟨⟨(by exact rfl), (VL.le (vl rfl) (one_cellsP _))⟩, trivial⟩⟩ (by decide)) ?_
 refine xo rfl (fun _ => ok_buildSlice (xs := [.const (.int .i64 (2)), .const (.int .i64 (10)), .const (.int .i64 (8)), .const (.int .i64 (3))]) (rows := [[_], [_], [_], [_]]) rfl rfl Tryz.underlying22 sz3 z3 rfl (by decide) ⟨⟨(by exact rfl), (VL.le (vl rfl) (one_cellsP _))⟩, ⟨⟨(by exact rfl), (VL.le (vl rfl) (one_cellsP _))⟩, ⟨⟨(by exact rfl), (VL.le (vl rfl) (one_cellsP _))⟩, ⟨⟨(by exact rfl), (VL.le (vl rfl) (one_cellsP _))⟩, trivial⟩⟩⟩⟩ (by decide)) ?_
 refine xo rfl (fun _ => ok_buildSlice (xs := [.tmp 27, .tmp 28, .tmp 29]) (rows := [[_], [_], [_]]) rfl rfl Tryz.underlying102 sz22 z22 rfl (by decide) ⟨⟨(by exact rfl), ⟨_, rfl, Pr.le_trans (full_le _ _) (one_cellsP _)⟩⟩, ⟨⟨(by exact rfl), ⟨_, rfl, Pr.le_trans (full_le _ _) (one_cellsP _)⟩⟩, ⟨⟨(by exact rfl), ⟨_, rfl, Pr.le_trans (full_le _ _) (one_cellsP _)⟩⟩, trivial⟩⟩⟩ (by decide)) ?_
 refine xm rfl (Cx.ef 4 rfl rfl (by decide) (ef_callc rfl rfl (by decide) rfl (w_DNext (by omega) (by omega)) ⟨ke rfl, ke rfl, trivial⟩) ?_)
 refine xo rfl (fun _ => ok_indexAddr rfl Tryz.underlying102 sz22 ⟨_, rfl, full_le _ _⟩ (vl rfl) (by omega) (show (optS.map fun l => [ints l])[_]? = _ from sopt_at hvs)) ?_
 refine xo rfl (fun _ => kl1 rfl one22 rfl) (xm rfl (Cx.ef 4 rfl rfl (by decide) (ef_callc rfl rfl (by decide) rfl (w_DOne (by omega) (by omega)) ⟨ke rfl, ke rfl, trivial⟩) (xo rfl (fun _ => ok_buildSlice (xs := [.const (.int .i64 (1))]) (rows := [[_]]) rfl rfl Tryz.underlying22 sz3 z3 rfl (by decide) ⟨⟨(by exact rfl), (VL.le (vl rfl) (one_cellsP _))⟩, trivial⟩ (by decide)) ?_)))
 refine xo rfl (fun _ => ok_buildSlice (xs := [.const (.int .i64 (2)), .const (.int .i64 (3))]) (rows := [[_], [_]]) rfl rfl Tryz.underlying22 sz3 z3 rfl (by decide) ⟨⟨(by exact rfl), (VL.le (vl rfl) (one_cellsP _))⟩, ⟨⟨(by exact rfl), (VL.le (vl rfl) (one_cellsP _))⟩, trivial⟩⟩ (by decide)) ?_
 refine xm rfl (Cx.ef 4 rfl rfl (by decide) (ef_callc rfl rfl (by decide) rfl (w_DOne (by omega) (by omega)) ⟨ke rfl, ke rfl, trivial⟩) (xo rfl (fun _ => ok_build (rows := [(0, [_]), (1, [_]), (2, [_]), (3, [_]), (4, [_]), (6, [_]), (7, [_]), (8, [_])]) rfl bl32 zo32 ⟨⟨rfl, (VL.le (vl rfl) (one_cellsP _))⟩, ⟨⟨rfl, (VL.le (vl rfl) (one_cellsP _))⟩, ⟨⟨rfl, (VL.le (vl rfl) (one_cellsP _))⟩, ⟨⟨rfl, (VL.le (vl rfl) (one_cellsP _))⟩, ⟨⟨rfl, (VL.le (vl rfl) (one_cellsP _))⟩, ⟨⟨rfl, ⟨_, rfl, Pr.le_trans (full_le _ _) (one_cellsP _)⟩⟩, ⟨⟨rfl, ⟨_, rfl, Pr.le_trans (full_le _ _) (one_cellsP _)⟩⟩, ⟨⟨rfl, (VL.le (vl rfl) (one_cellsP _))⟩, trivial⟩⟩⟩⟩⟩⟩⟩⟩ rfl) (Cx.ef 0 rfl rfl (by decide) (ef_allocX rfl rfl (by decide) rfl z32 zo32) (Cx.ef0 0 rfl rfl (ef_storeX rfl rfl rfl rfl (VL.le (vl rfl) (agg_cellsP _)) sz32 rfl rfl) ?_))))
 refine Cx.nil ⟨rfl, ?_⟩
 refine FinX.open_ 0 7 rfl rfl (fun v1 => ?_)
 refine FinX.done (AllC.cons (AllC.cons (AllC.cons (AllC.cons (AllC.cons (AllC.cons (AllC.map _))))))) (Fin.opn 7 0 _ rfl rfl (fun _ => rfl) (fun b3 => ?_))
 refine Fin.go (wk10 0 2 3 4 5 6 7 16 17 18 rfl (Tr.seq (Tr.seq (Tr.reC 0 [str nm, int 1, int (s2.of [3, 3, 4]), ints (sOpt (s2.adv.val 3)), bool (s2.adv.adv.val 2 == 2 - 1), is (.slice none 0 0), ints [1], ints [2, 3], bool (s2.adv.adv.adv.val 3 == 3 - 1)] rfl ⟨Pr.le_refl _, Pr.le_refl _, Pr.le_refl _, Pr.le_refl _, Pr.le_refl _, Pr.le_refl _, Pr.le_refl _, Pr.le_refl _, Pr.le_refl _, trivial⟩ (Tr.reg0 (co rfl (okp_fieldAddr rfl fo32_2 (vl rfl)) (co rfl (ok_rd 0 rfl (rd_load1 rfl one3 (vl rfl) rfl)) (co rfl (ki rfl rfl rfl rfl) (Ch.nil (Fin.go ?_))))))))))
 refine Tr.cn rfl ?_ ?_ <;> intro h2 q2
 refine Tr.regT (tp rfl (ok_buildSlice (xs := [.const (.int .i64 (14))]) (rows := [[_]]) rfl rfl Tryz.underlying22 sz3 z3 rfl (by decide) ⟨⟨(by exact rfl), (VL.le (vl rfl) (one_cellsP _))⟩, trivial⟩ (by decide)) ?_)
 refine tp rfl (okp_fieldAddr rfl fo32_3 (vl rfl)) (TO.rd 0 rfl rfl rfl (by decide) (rd_load1 rfl one22 (vl rfl) rfl) (TO.pad ?_))
 refine TO.efs 0 rfl rfl (by decide) (ef_append rfl rfl (by decide) rfl Tryz.underlying22 sz3 by3 z3 rfl (by decide) ⟨_, rfl, full_le _ _⟩ (vl rfl) (by simp only [List.length_append, List.length_cons, List.length_nil, List.length_map]; unfold maxLen; omega) (by simp only [List.length_append, List.length_cons, List.length_nil, List.length_map]; omega) (appR_full (by exact List.Mem.head _) (vl rfl))) (fun v2 => ?_)
 refine tp rfl (okp_fieldAddr rfl fo32_3 (vl rfl)) (TO.ef0 1 rfl rfl (ef_store rfl rfl (vl rfl) (VL.le (vl rfl) (one_cellsP _)) sz22 rfl (by exact Nat.le_of_ble_eq_true rfl) rfl) (TO.nil (Fin.go (wk10 0 2 3 4 5 6 7 16 17 18 rfl (Tr.seq (Tr.regT (tm rfl (tp rfl (ok_call rfl (w_RSA) trivial) (tm rfl ?_)))))))))
 refine tp rfl (ok_add rfl (vl rfl) (vl rfl) ?hin) ?_; case hin => unfold InI; omega
 refine tp rfl (ok_call rfl (w_Leaf (name := nm) (a := 5) (b := 2048) (id := 100 + (k : Nat)) (to := 901) (key := 1) (leaf_ok hnm2 (by omega) (by omega)) (leaf_tiny (by omega)) (by omega)) ⟨ke rfl, ke rfl, ke rfl, ke rfl, ke rfl, trivial⟩) ?_
 refine TO.ex 54 rfl (fun z54 => TO.fact 54 rfl fun hz54 => ?_)
 refine tp rfl (ok_buildSlice (xs := [.tmp 54]) (rows := [_]) rfl rfl Tryz.underlying30 sz27 z27 rfl (by decide) ⟨⟨(by exact rfl), (VL.le (vl rfl) (agg_cellsP _))⟩, trivial⟩ (by decide)) ?_
 refine tp rfl (okp_fieldAddr rfl fo32_5 (vl rfl)) (TO.ef0 1 rfl rfl (ef_store rfl rfl (vl rfl) (VL.le (vl rfl) (one_cellsP _)) sz30 rfl (by exact Nat.le_of_ble_eq_true rfl) rfl) (TO.nil (Fin.go (wk8 0 2 3 4 7 16 17 18 rfl (Tr.regT (tp rfl (okp_fieldAddr rfl fo41_0 (vl rfl)) (TO.rd 3 rfl rfl rfl (by decide) (rd_load1 rfl one37 (vl rfl) rfl) (TO.rd 1 rfl rfl rfl (by decide) (rd_loadA rfl agg32 sz32 (vl rfl) rfl rfl) (tp rfl (ok_buildSlice (xs := [.tmp 59]) (rows := [rowEp (⟨nm, 1, s2.of [3, 3, 4], 14 :: sOpt (s2.adv.val 3), (s2.adv.adv.val 2 == 2 - 1), [leafI nm 5 2048 (100 + (k : Nat)) 901 1 z54], [1], [2, 3], (s2.adv.adv.adv.val 3 == 3 - 1)⟩ : Ept)]) rfl rfl Tryz.underlying37 sz32 z32 rfl (by decide) ⟨⟨(by exact rfl), VL.le (vl rfl) (Pr.le_trans (agg_le (qs := rowEp (⟨nm, 1, s2.of [3, 3, 4], 14 :: sOpt (s2.adv.val 3), (s2.adv.adv.val 2 == 2 - 1), [leafI nm 5 2048 (100 + (k : Nat)) 901 1 z54], [1], [2, 3], (s2.adv.adv.adv.val 3 == 3 - 1)⟩ : Ept)) ⟨Pr.le_refl _, Pr.le_refl _, Pr.le_refl _, Pr.le_trans (andIs_le _ _) (Pr.le_of_eq rfl), Pr.le_refl _, full_le _ _, Pr.le_refl _, Pr.le_refl _, Pr.le_refl _, trivial⟩) (agg_cellsP _))⟩, trivial⟩ (by decide)) ?_)))))))))
 refine TO.efs 2 rfl rfl (by decide) (ef_append rfl rfl (by decide) rfl Tryz.underlying37 sz32 by32 z32 rfl (by decide) ⟨_, rfl, andIs_le _ _⟩ ⟨_, rfl, full_le _ _⟩ (by simp only [List.length_append, List.length_cons, List.length_nil, List.length_map]; unfold maxLen; omega) (by simp only [List.length_append, List.length_cons, List.length_nil, List.length_map]; omega) (appR_is (by exact List.Mem.head _) ⟨_, rfl, andIs_is _ _⟩)) (fun v3 => ?_)
 refine tp rfl (okp_fieldAddr rfl fo41_0 (vl rfl)) (TO.ef0 3 rfl rfl (ef_store rfl rfl (vl rfl) (VL.le (vl rfl) (one_cellsP _)) sz37 rfl (by exact Nat.le_of_ble_eq_true rfl) rfl) (TO.nil (Fin.block (Fin.go (Tr.drop 1 (wk7 0 2 3 4 16 17 18 rfl (Tr.reg0 (cad rfl rfl rfl rfl (by omega) (cm rfl (Ch.nil ?_))))))))))
 refine Fin.reC 2 [andIs v3 (slice 9 ((es ++ [(⟨nm, 1, s2.of [3, 3, 4], 14 :: sOpt (s2.adv.val 3), (s2.adv.adv.val 2 == 2 - 1), [leafI nm 5 2048 (100 + (k : Nat)) 901 1 z54], [1], [2, 3], (s2.adv.adv.adv.val 3 == 3 - 1)⟩ : Ept)]).map rowEp)), is (.slice none 0 0), is (.slice none 0 0)] rfl ⟨own_le (by rw [List.map_append]; rfl), Pr.le_refl _, Pr.le_refl _, trivial⟩ ?_
 refine Fin.drop 0 ?_
 exact Fin.famD3V1 (k + 1) (es ++ [(⟨nm, 1, s2.of [3, 3, 4], 14 :: sOpt (s2.adv.val 3), (s2.adv.adv.val 2 == 2 - 1), [leafI nm 5 2048 (100 + (k : Nat)) 901 1 z54], [1], [2, 3], (s2.adv.adv.adv.val 3 == 3 - 1)⟩ : Ept)]) (_) v3 (⟨⟨by omega, by rw [List.length_append, hk2]; rfl, snd_snoc hk3 ⟨by rw [hk2]; exact hnm2, rfl, hof, .inr ⟨_, sopt_mem hvs, rfl⟩, ⟨z54, hz54, by rw [hk2]⟩, rfl, rfl⟩⟩, by omega⟩) ⟨⟨_, rfl, int_succ k⟩, ke rfl, ke rfl, ke rfl, ke rfl, ke rfl, ke rfl, trivial⟩ (fun _ _ h => h)
 refine Tr.skip (Fin.go (Tr.seq (Tr.regT (tm rfl (tp rfl (ok_call rfl (w_RSA) trivial) (tm rfl ?_))))))
 refine tp rfl (ok_add rfl (vl rfl) (vl rfl) ?hin) ?_; case hin => unfold InI; omega
 refine tp rfl (ok_call rfl (w_Leaf (name := nm) (a := 5) (b := 2048) (id := 100 + (k : Nat)) (to := 901) (key := 1) (leaf_ok hnm2 (by omega) (by omega)) (leaf_tiny (by omega)) (by omega)) ⟨ke rfl, ke rfl, ke rfl, ke rfl, ke rfl, trivial⟩) ?_
 refine TO.ex 54 rfl (fun z54 => TO.fact 54 rfl fun hz54 => ?_)
 refine tp rfl (ok_buildSlice (xs := [.tmp 54]) (rows := [_]) rfl rfl Tryz.underlying30 sz27 z27 rfl (by decide) ⟨⟨(by exact rfl), (VL.le (vl rfl) (agg_cellsP _))⟩, trivial⟩ (by decide)) ?_
 refine tp rfl (okp_fieldAddr rfl fo32_5 (vl rfl)) (TO.ef0 0 rfl rfl (ef_store rfl rfl (vl rfl) (VL.le (vl rfl) (one_cellsP _)) sz30 rfl (by exact Nat.le_of_ble_eq_true rfl) rfl) (TO.nil (Fin.go (wk8 0 2 3 4 7 16 17 18 rfl (Tr.regT (tp rfl (okp_fieldAddr rfl fo41_0 (vl rfl)) (TO.rd 2 rfl rfl rfl (by decide) (rd_load1 rfl one37 (vl rfl) rfl) (TO.rd 0 rfl rfl rfl (by decide) (rd_loadA rfl agg32 sz32 (vl rfl) rfl rfl) (tp rfl (ok_buildSlice (xs := [.tmp 59]) (rows := [rowEp (⟨nm, 1, s2.of [3, 3, 4], sOpt (s2.adv.val 3), (s2.adv.adv.val 2 == 2 - 1), [leafI nm 5 2048 (100 + (k : Nat)) 901 1 z54], [1], [2, 3], (s2.adv.adv.adv.val 3 == 3 - 1)⟩ : Ept)]) rfl rfl Tryz.underlying37 sz32 z32 rfl (by decide) ⟨⟨(by exact rfl), VL.le (vl rfl) (Pr.le_trans (agg_le (qs := rowEp (⟨nm, 1, s2.of [3, 3, 4], sOpt (s2.adv.val 3), (s2.adv.adv.val 2 == 2 - 1), [leafI nm 5 2048 (100 + (k : Nat)) 901 1 z54], [1], [2, 3], (s2.adv.adv.adv.val 3 == 3 - 1)⟩ : Ept)) ⟨Pr.le_refl _, Pr.le_refl _, Pr.le_refl _, Pr.le_refl _, Pr.le_refl _, full_le _ _, Pr.le_refl _, Pr.le_refl _, Pr.le_refl _, trivial⟩) (agg_cellsP _))⟩, trivial⟩ (by decide)) ?_)))))))))
 refine TO.efs 1 rfl rfl (by decide) (ef_append rfl rfl (by decide) rfl Tryz.underlying37 sz32 by32 z32 rfl (by decide) ⟨_, rfl, andIs_le _ _⟩ ⟨_, rfl, full_le _ _⟩ (by simp only [List.length_append, List.length_cons, List.length_nil, List.length_map]; unfold maxLen; omega) (by simp only [List.length_append, List.length_cons, List.length_nil, List.length_map]; omega) (appR_is (by exact List.Mem.head _) ⟨_, rfl, andIs_is _ _⟩)) (fun v4 => ?_)
 refine tp rfl (okp_fieldAddr rfl fo41_0 (vl rfl)) (TO.ef0 2 rfl rfl (ef_store rfl rfl (vl rfl) (VL.le (vl rfl) (one_cellsP _)) sz37 rfl (by exact Nat.le_of_ble_eq_true rfl) rfl) (TO.nil (Fin.block (Fin.go (Tr.drop 0 (wk7 0 2 3 4 16 17 18 rfl (Tr.reg0 (cad rfl rfl rfl rfl (by omega) (cm rfl (Ch.nil ?_))))))))))
 refine Fin.reC 1 [andIs v4 (slice 9 ((es ++ [(⟨nm, 1, s2.of [3, 3, 4], sOpt (s2.adv.val 3), (s2.adv.adv.val 2 == 2 - 1), [leafI nm 5 2048 (100 + (k : Nat)) 901 1 z54], [1], [2, 3], (s2.adv.adv.adv.val 3 == 3 - 1)⟩ : Ept)]).map rowEp)), is (.slice none 0 0), is (.slice none 0 0)] rfl ⟨own_le (by rw [List.map_append]; rfl), Pr.le_refl _, Pr.le_refl _, trivial⟩ ?_
 exact Fin.famD3V1 (k + 1) (es ++ [(⟨nm, 1, s2.of [3, 3, 4], sOpt (s2.adv.val 3), (s2.adv.adv.val 2 == 2 - 1), [leafI nm 5 2048 (100 + (k : Nat)) 901 1 z54], [1], [2, 3], (s2.adv.adv.adv.val 3 == 3 - 1)⟩ : Ept)]) (_) v4 (⟨⟨by omega, by rw [List.length_append, hk2]; rfl, snd_snoc hk3 ⟨by rw [hk2]; exact hnm2, rfl, hof, .inl (sopt_mem hvs), ⟨z54, hz54, by rw [hk2]⟩, rfl, rfl⟩⟩, by omega⟩) ⟨⟨_, rfl, int_succ k⟩, ke rfl, ke rfl, ke rfl, ke rfl, ke rfl, ke rfl, trivial⟩ (fun _ _ h => h)
 have hke : k = (2 + s.val 2).toNat := by have := Nrm.nrm h1; rw [hnl] at this; omega
 refine Tr.exit (Fin.then_exit (Fin.then_exit (Fin.block_here (Fin.go (Tr.seq (Tr.seq (Tr.reC 1 [slice 9 (es.map rowEp), is (.slice none 0 0), is (.slice none 0 0)] rfl ⟨andIs_le _ _, Pr.le_refl _, Pr.le_refl _, trivial⟩ (Tr.drop 0 (Tr.reg0 (cm rfl (co rfl (ok_len rfl Tryz.underlying74 (vl rfl)) (cm rfl (Ch.nil (Fin.go ?_))))))))))))))
 refine Tr.block ?_
 refine Tr.re 65 rfl (int_eq (by simp; rfl) : Pr.le _ (int (((nameL.take (2 + s.val 2).toNat).length : Nat) : Int))) ?_
 refine Tr.reC 0 [slice 9 (es.map rowEp), andIs (.slice none 0 0) (edgs []), is (.slice none 0 0)] rfl ⟨Pr.le_refl _, own_nil rfl, Pr.le_refl _, trivial⟩ (Tr.addnil 80 2 (Tr.loopD3V1 [(0, _), (2, _), (3, _), (4, _), (65, _)] ⟨ke rfl, ke rfl, ke rfl, ke rfl, ke rfl, trivial⟩ (fun (i : Nat) (gs : List Edg) (s3 : DS) w => [(66, int ((i : Nat) : Int))]) (fun (i : Nat) (gs : List Edg) (s3 : DS) w => Hp M0 w0 S (appRes 80 2 w :: cellsRes true b2 41 [slice 9 (es.map rowEp), andIs w (edgs gs), is (.slice none 0 0)] :: cellsRes true b1 41 (([.slice none 0 0, .slice none 0 0, .slice none 0 0] : List Value).map is) :: diceS b s3 :: extRes M1 w1 :: rs)) (fun (i : Nat) (gs : List Edg) (s3 : DS) => i ≤ (2 + s.val 2).toNat ∧ gs.length ≤ 3 ∧ EdI (2 + s.val 2).toNat i 0 gs) (fun (i : Nat) (gs : List Edg) (s3 : DS) => (2 + s.val 2).toNat - i) (0) ([]) (_) (.slice none 0 0) (⟨by omega, by simp, EdI.nil _ _ _⟩) ⟨ke rfl, trivial⟩ (fun _ _ h => h) ?_))
 rintro i gs s3 w ⟨hi1, hi2, hi3⟩
 refine Tr.seq (Tr.reg0 (co rfl (ki rfl rfl rfl rfl) (Ch.nil (Fin.go (Tr.seq ?_)))))
 refine Tr.cn rfl ?_ ?_ <;> intro h3 q3
 have hin : i < (2 + s.val 2).toNat := by have := Nrm.nrm h3; rw [hnl] at this; omega
 refine Tr.skip (Fin.go (Tr.seq (Tr.block (Tr.seq (Tr.reg0 (cm rfl (cm rfl (Ch.nil (Fin.go (Tr.seq (Tr.reg0 (cm rfl (co rfl (ok_len rfl Tryz.underlying74 (vl rfl)) ?_)))))))))))))
 refine cm rfl (Ch.nil (Fin.go (Tr.block ?_)))
 refine Tr.re 70 rfl (int_eq (by simp; rfl) : Pr.le _ (int (((nameL.take (2 + s.val 2).toNat).length : Nat) : Int))) ?_
 refine Tr.loopD3V1 [(0, _), (2, _), (3, _), (4, _), (8, _), (65, _), (66, _), (70, _)] ⟨ke rfl, ke rfl, ke rfl, ke rfl, ke rfl, ke rfl, ke rfl, ke rfl, trivial⟩ (fun (j : Nat) (gs3 : List Edg) (s4 : DS) u => [(71, int ((j : Nat) : Int))]) (fun (j : Nat) (gs3 : List Edg) (s4 : DS) u => Hp M0 w0 S (appRes 80 2 u :: cellsRes true b2 41 [slice 9 (es.map rowEp), andIs u (edgs gs3), is (.slice none 0 0)] :: cellsRes true b1 41 (([.slice none 0 0, .slice none 0 0, .slice none 0 0] : List Value).map is) :: diceS b s4 :: extRes M1 w1 :: rs)) (fun (j : Nat) (gs3 : List Edg) (s4 : DS) => j ≤ (2 + s.val 2).toNat ∧ gs3.length ≤ 3 ∧ EdI (2 + s.val 2).toNat i j gs3) (fun (j : Nat) (gs3 : List Edg) (s4 : DS) => (2 + s.val 2).toNat - j) (0) (gs) (_) w (⟨by omega, hi2, hi3⟩) ⟨ke rfl, trivial⟩ (fun _ _ h => h) ?_
 rintro j gs3 s4 u ⟨hj1, hj2, hj3⟩
 refine Tr.seq (Tr.reg0 (co rfl (ki rfl rfl rfl rfl) (Ch.nil (Fin.go (Tr.seq ?_)))))
 refine Tr.cn rfl ?_ ?_ <;> intro h4 q4
 have hjn : j < (2 + s.val 2).toNat := by have := Nrm.nrm h4; rw [hnl] at this; omega
 refine Tr.skip (Fin.go (Tr.seq (Tr.block (Tr.seq (Tr.reg0 (cm rfl (cm rfl (Ch.nil (Fin.go (Tr.seq (Tr.regT (tm rfl (tm rfl ?_)))))))))))))
 refine tp rfl (ki rfl rfl rfl rfl) (tm rfl ?_)
 refine TO.cases 77 rfl (fun h5 => ?_) (fun h5 => ?_)
 have q5 := Nrm.nrm h5
 refine TO.opG rfl rfl rfl h5 rfl (by decide) (ok_move rfl (vl rfl)) (TO.efcG 3 rfl rfl rfl h5 rfl rfl (by decide) (ef_callc rfl rfl (by decide) rfl (w_DNext (by omega) (by omega)) ⟨ke rfl, ke rfl, trivial⟩) (TO.opG rfl rfl rfl h5 rfl (by decide) (ki rfl rfl rfl rfl) (tp rfl (kpt rfl rfl h5 rfl) (tm rfl ?_))))
 refine TO.cases 82 rfl (fun h6 => ?_) (fun h6 => ?_)
 have q6 := Nrm.nrm h6
 refine TO.opG rfl rfl rfl h6 rfl (by decide) (okp_fieldAddr rfl fo41_1 (vl rfl)) (TO.opG rfl rfl rfl h6 rfl (by decide) (ok_rd 1 rfl (rd_load1 rfl one38 (vl rfl) rfl)) (TO.opG rfl rfl rfl h6 rfl (by decide) (ok_lenm rfl Tryz.underlying38 ⟨_, rfl, andIs_le _ _⟩) (TO.opG rfl rfl rfl h6 rfl (by decide) (ki rfl rfl rfl rfl) (tp rfl (kpt rfl rfl h6 rfl) (TO.nil (Fin.go (wk11 0 2 3 4 8 9 65 66 70 71 87 rfl ?_)))))))
 refine Tr.cn rfl ?_ ?_ <;> intro h7 q7
 refine Tr.regT (tp rfl (okp_fieldAddr rfl fo41_1 (vl rfl)) (TO.rd 1 rfl rfl rfl (by decide) (rd_load1 rfl one38 (vl rfl) rfl) (tm rfl (tm rfl (tp rfl (ok_build (rows := [(0, [_]), (1, [_])]) rfl bl80 zo80 ⟨⟨rfl, (VL.le (vl rfl) (one_cellsP _))⟩, ⟨⟨rfl, (VL.le (vl rfl) (one_cellsP _))⟩, trivial⟩⟩ rfl) (tp rfl (ok_buildSlice (xs := [.tmp 92]) (rows := [_]) rfl rfl Tryz.underlying38 sz80 z80 rfl (by decide) ⟨⟨(by exact rfl), (VL.le (vl rfl) (agg_cellsP _))⟩, trivial⟩ (by decide)) ?_))))))
 refine TO.efs 0 rfl rfl (by decide) (ef_append rfl rfl (by decide) rfl Tryz.underlying38 sz80 by80 z80 rfl (by decide) ⟨_, rfl, andIs_le _ _⟩ ⟨_, rfl, full_le _ _⟩ (by simp only [List.length_append, List.length_cons, List.length_nil, List.length_map]; unfold maxLen; omega) (by simp only [List.length_append, List.length_cons, List.length_nil, List.length_map]; omega) (appR_is (by exact List.Mem.head _) ⟨_, rfl, andIs_is _ _⟩)) (fun v5 => ?_)
 refine tp rfl (okp_fieldAddr rfl fo41_1 (vl rfl)) (TO.ef0 1 rfl rfl (ef_store rfl rfl (vl rfl) (VL.le (vl rfl) (one_cellsP _)) sz38 rfl (by exact Nat.le_of_ble_eq_true rfl) rfl) (TO.nil (Fin.block (Fin.go (wk9 0 2 3 4 8 65 66 70 71 rfl (Tr.reg0 (cad rfl rfl rfl rfl (by omega) (cm rfl (Ch.nil ?_)))))))))
 refine Fin.reC 1 [slice 9 (es.map rowEp), andIs v5 (edgs (gs3 ++ [(⟨((i : Nat) : Int), ((j : Nat) : Int)⟩ : Edg)])), is (.slice none 0 0)] rfl ⟨Pr.le_refl _, own_le (by rw [List.map_append]; rfl), Pr.le_refl _, trivial⟩ ?_
 exact Fin.famD3V1 (j + 1) (gs3 ++ [(⟨((i : Nat) : Int), ((j : Nat) : Int)⟩ : Edg)]) (_) v5 (⟨⟨by omega, by simp; omega, hj3.snoc ⟨by omega, by omega⟩ ⟨by omega, by omega⟩ (by omega)⟩, by omega⟩) ⟨⟨_, rfl, int_succ j⟩, ke rfl, ke rfl, ke rfl, ke rfl, ke rfl, ke rfl, ke rfl, ke rfl, trivial⟩ (fun _ _ h => h)
 refine Tr.skip (Fin.block (Fin.go (Tr.reg0 (cad rfl rfl rfl rfl (by omega) (cm rfl (Ch.nil (Fin.famD3V1 (j + 1) (gs3) (_) u (⟨⟨by omega, hj2, hj3.step⟩, by omega⟩) ⟨⟨_, rfl, int_succ j⟩, ke rfl, ke rfl, ke rfl, ke rfl, ke rfl, ke rfl, ke rfl, ke rfl, trivial⟩ (fun _ _ h => h))))))))
 have q6 := Nrm.nrm h6
 iterate 4 refine TO.noG rfl rfl rfl (ne_true h6) rfl (by decide) ?_
 refine tp rfl (kpf rfl rfl h6 rfl) (TO.nil (Fin.go (wk11 0 2 3 4 8 9 65 66 70 71 87 rfl (Tr.cond rfl (fun h => nomatch h) (fun _ => ?_)))))
 refine Tr.skip (Fin.block (Fin.go (Tr.reg0 (cad rfl rfl rfl rfl (by omega) (cm rfl (Ch.nil (Fin.famD3V1 (j + 1) (gs3) (_) u (⟨⟨by omega, hj2, hj3.step⟩, by omega⟩) ⟨⟨_, rfl, int_succ j⟩, ke rfl, ke rfl, ke rfl, ke rfl, ke rfl, ke rfl, ke rfl, ke rfl, trivial⟩ (fun _ _ h => h))))))))
 have q5 := Nrm.nrm h5
 refine TO.noG rfl rfl rfl (ne_true h5) rfl (by decide) (TO.noG rfl rfl rfl (ne_true h5) rfl (by decide) (TO.noG rfl rfl rfl (ne_true h5) rfl (by decide) (tp rfl (kpf rfl rfl h5 rfl) (tm rfl ?_))))
 iterate 4 refine TO.noG rfl rfl rfl (ne_true rfl) rfl (by decide) ?_
 refine tp rfl (kpf rfl rfl rfl rfl) (TO.nil (Fin.go (wk11 0 2 3 4 8 9 65 66 70 71 87 rfl (Tr.cond rfl (fun h => nomatch h) (fun _ => ?_)))))
 refine Tr.skip (Fin.block (Fin.go (Tr.reg0 (cad rfl rfl rfl rfl (by omega) (cm rfl (Ch.nil (Fin.famD3V1 (j + 1) (gs3) (_) u (⟨⟨by omega, hj2, hj3.step⟩, by omega⟩) ⟨⟨_, rfl, int_succ j⟩, ke rfl, ke rfl, ke rfl, ke rfl, ke rfl, ke rfl, ke rfl, ke rfl, trivial⟩ (fun _ _ h => h))))))))
 have hje : j = (2 + s.val 2).toNat := by have := Nrm.nrm h4; rw [hnl] at this; omega
 refine Tr.exit (Fin.then_exit (Fin.then_exit (Fin.block_here (Fin.block (Fin.go (Tr.reg0 (cad rfl rfl rfl rfl (by omega) (cm rfl (Ch.nil (Fin.famD3V1 (i + 1) (gs3) (_) u (⟨⟨by omega, hj2, hj3.row⟩, by omega⟩) ⟨⟨_, rfl, int_succ i⟩, ke rfl, ke rfl, ke rfl, ke rfl, ke rfl, trivial⟩ (fun _ _ h => h)))))))))))
 have hie : i = (2 + s.val 2).toNat := by have := Nrm.nrm h3; rw [hnl] at this; omega
 refine Tr.exit (Fin.then_exit (Fin.then_exit (Fin.block_here (Fin.go (Tr.seq (Tr.seq (Tr.reg0 (co rfl (okp_fieldAddr rfl fo41_1 (vl rfl)) (co rfl (ok_rd 1 rfl (rd_load1 rfl one38 (vl rfl) rfl)) (co rfl (ok_lenm rfl Tryz.underlying38 ⟨_, rfl, andIs_le _ _⟩) (co rfl (ki rfl rfl rfl rfl) (Ch.nil (Fin.go ?_)))))))))))))
 refine Tr.cn rfl ?_ ?_ <;> intro h8 q8
 refine Tr.regT (tp rfl (ok_build (rows := [(0, [_]), (1, [_])]) rfl bl80 zo80 ⟨⟨rfl, (VL.le (vl rfl) (one_cellsP _))⟩, ⟨⟨rfl, (VL.le (vl rfl) (one_cellsP _))⟩, trivial⟩⟩ rfl) (tp rfl (ok_buildSlice (xs := [.tmp 102]) (rows := [_]) rfl rfl Tryz.underlying38 sz80 z80 rfl (by decide) ⟨⟨(by exact rfl), (VL.le (vl rfl) (agg_cellsP _))⟩, trivial⟩ (by decide)) ?_))
 refine tp rfl (okp_fieldAddr rfl fo41_1 (vl rfl)) (TO.ef0 1 rfl rfl (ef_store rfl rfl (vl rfl) (VL.le (vl rfl) (one_cellsP _)) sz38 rfl (by exact Nat.le_of_ble_eq_true rfl) rfl) (TO.nil (Fin.go (wk3 0 2 3 rfl (Tr.seq (Tr.seq ?_))))))
 have hv9 := s3.val_in (n := 3) (by omega)
 obtain ⟨gs2, hge, hge2, hge3, hge4⟩ : ∃ l : List Edg, l = [⟨0, 1⟩] ∧ (∀ k, k < l.length → edgeAt (2 + s.val 2).toNat l k = true) ∧ 1 ≤ l.length ∧ l.length ≤ 3 := ⟨_, rfl, ((EdI.nil (2 + s.val 2).toNat 0 1).snoc ⟨by omega, by omega⟩ ⟨by omega, by omega⟩ (by omega)).at_, by simp, by simp⟩
 refine Tr.reC 1 [slice 9 (es.map rowEp), edgs gs2, is (.slice none 0 0)] rfl ⟨Pr.le_refl _, Pr.le_trans (full_le _ _) (Pr.le_of_eq (by rw [hge]; rfl)), Pr.le_refl _, trivial⟩ ?_
 refine Tr.drop 0 (Tr.regT (tm rfl (TO.efc 2 rfl rfl (by decide) (ef_callc rfl rfl (by decide) rfl (w_DNext (by omega) (by omega)) ⟨ke rfl, ke rfl, trivial⟩) (tm rfl (TO.nil (Fin.go (Tr.block (Tr.reC 0 [slice 9 (es.map rowEp), edgs gs2, andIs (.slice none 0 0) (itms [])] rfl ⟨Pr.le_refl _, Pr.le_refl _, own_nil rfl, trivial⟩ (Tr.addnil 107 5 ?_)))))))))
 refine Tr.loopD3V1 [(0, _), (2, _), (3, _)] ⟨ke rfl, ke rfl, ke rfl, trivial⟩ (fun (q : Int) (its : List Itm) (s5 : DS) x => [(10, int q)]) (fun (q : Int) (its : List Itm) (s5 : DS) x => Hp M0 w0 S (appRes 107 5 x :: cellsRes true b2 41 [slice 9 (es.map rowEp), edgs gs2, andIs x (itms its)] :: cellsRes true b1 41 (([.slice none 0 0, .slice none 0 0, .slice none 0 0] : List Value).map is) :: diceS b s5 :: extRes M1 w1 :: rs)) (fun (q : Int) (its : List Itm) (s5 : DS) => 0 ≤ q ∧ q + its.length ≤ 2 ∧ ∀ x ∈ its, ItmS x) (fun (q : Int) (its : List Itm) (s5 : DS) => q.toNat) (_) ([]) (_) (.slice none 0 0) (⟨by omega, by simp; omega, fun x h => by simp at h⟩) ⟨ke rfl, trivial⟩ (fun _ _ h => h) ?_
 rintro q its s5 x ⟨hq1, hq2, hqi⟩
 refine Tr.seq (Tr.seq (Tr.reg0 (cm rfl (co rfl (ki rfl rfl rfl rfl) (Ch.nil (Fin.go ?_))))))
 refine Tr.cn rfl ?_ ?_ <;> intro h9 q9
 have hq3 : 0 < q := of_decide_eq_true h9
 refine Tr.skip (Fin.go (Tr.seq (Tr.block (Tr.pad (Tr.regX mixed [none, some (0, 2, false, 0), none, none, none, some (0, 4, true, 0), some (0, 4, true, 0), none, some (0, 1, true, 119), none, some (0, 2, true, 119)] (by kernel_rfl) (xo rfl (fun _ => okp_fieldAddr rfl fo41_2 (vl rfl)) (xrd 2 rfl rfl (rd_load1 rfl one39 (vl rfl) rfl) (xm rfl (xm rfl (xo rfl (fun _ => ok_buildSlice (xs := [.const (.string ⟨[98, 97, 99, 107, 117, 112].toArray⟩), .const (.string ⟨[100, 101, 101, 100].toArray⟩)]) (rows := [[_], [_]]) rfl rfl Tryz.underlying74 sz9 z9 rfl (by decide) ⟨⟨(by exact rfl), (VL.le (vl rfl) (one_cellsP _))⟩, ⟨⟨(by exact rfl), (VL.le (vl rfl) (one_cellsP _))⟩, trivial⟩⟩ (by decide)) ?_))))))))))
 refine Cx.ef 4 rfl rfl (by decide) (ef_callc rfl rfl (by decide) rfl (w_DWordE (l := [[98, 97, 99, 107, 117, 112], [100, 101, 101, 100]]) (by simp) (by simp)) ⟨ke rfl, ⟨_, rfl, full_le _ _⟩, trivial⟩) ?_
 refine Cx.ef 4 rfl rfl (by decide) (ef_callc rfl rfl (by decide) rfl (w_ItemF) ⟨ke rfl, ke rfl, trivial⟩) (xo rfl (fun _ => ok_buildSlice (xs := [.tmp 117]) (rows := [_]) rfl rfl Tryz.underlying39 sz107 z107 rfl (by decide) ⟨⟨(by exact rfl), (VL.le (vl rfl) (agg_cellsP _))⟩, trivial⟩ (by decide)) ?_)
 refine Cx.ef 1 rfl rfl (by decide) (ef_append rfl rfl (by decide) rfl Tryz.underlying39 sz107 by107 z107 rfl (by decide) ⟨_, rfl, andIs_le _ _⟩ ⟨_, rfl, full_le _ _⟩ (by simp only [List.length_append, List.length_cons, List.length_nil, List.length_map]; unfold maxLen; omega) (by simp only [List.length_append, List.length_cons, List.length_nil, List.length_map]; omega) (appR_is (by exact List.Mem.head _) ⟨_, rfl, andIs_is _ _⟩)) ?_
 refine xo rfl (fun _ => okp_fieldAddr rfl fo41_2 (vl rfl)) (Cx.ef0 2 rfl rfl (ef_storeS rfl rfl rfl (vl rfl) rfl sz39 (by exact Nat.le_of_ble_eq_true rfl)) ?_)
 refine Cx.nil ⟨rfl, ?_⟩
 refine FinX.open2 1 2 119 rfl rfl (by decide) rfl (fun v6 => ?_)
 refine FinX.done (AllC.cons (AllC.cons (AllC.cons (AllC.cons (AllC.cons (AllC.cons (AllC.map _))))))) (Fin.block (Fin.go (Tr.drop 0 (wk4 0 2 3 10 rfl (Tr.reg0 (cm rfl (csu rfl rfl rfl rfl (by omega) (cm rfl (Ch.nil ?_)))))))))
 refine Fin.reC 1 [slice 9 (es.map rowEp), edgs gs2, andIs v6 (itms (its ++ [(itemF s5.adv (wordOf s5 [backup, deed]))]))] rfl ⟨Pr.le_refl _, Pr.le_refl _, own_le (by rw [List.map_append]; rfl), trivial⟩ ?_
 exact Fin.famD3V1 (q - 1) (its ++ [(itemF s5.adv (wordOf s5 [backup, deed]))]) (_) v6 (⟨⟨by omega, by simp; omega, its_snoc hqi (item_ok (word_ok s5))⟩, by omega⟩) ⟨⟨_, rfl, int_eq (by omega)⟩, ke rfl, ke rfl, ke rfl, trivial⟩ (fun _ _ h => h)
 have hq3 : ¬ 0 < q := of_decide_eq_false h9
 refine Tr.exit (Fin.then_exit (Fin.then_exit (Fin.block_here (Fin.go (Tr.seq (Tr.regT (TO.rd 1 rfl rfl rfl (by decide) (rd_loadA rfl agg41 sz41 (vl rfl) rfl rfl) (TO.store_all 2 rfl rfl rfl (vl rfl) (VL.le (vl rfl) (agg_cellsP _)) rfl sz41 rfl rfl (TO.nil (Fin.go (Tr.ret (Fin.closeD 3 _ rfl rfl (Fin.retY1 [_, _, _] rfl (RVal.cell 2 rfl rfl agg41 sz41 rfl (Pr.le_refl _)) ?_ (fun _ _ _ _ => rfl))))))))))))))
 · exact ex_in ⟨es, gs2, its⟩ (fact_in ⟨by show 2 ≤ es.length; omega, by show es.length ≤ 3; omega, hk3, by show ∀ k, k < gs2.length → edgeAt es.length gs2 k = true; rw [hk2, hke]; exact hge2, hge3, hge4, hqi, by show its.length ≤ 2; omega⟩ (agg_le ⟨Pr.le_refl _, Pr.le_refl _, andIs_le _ _, trivial⟩))
 refine Tr.skip (Fin.go (Tr.seq (Tr.seq ?_)))
 have hv9 := s3.val_in (n := 3) (by omega)
 obtain ⟨gs2, hge, hge2, hge3, hge4⟩ : ∃ l : List Edg, l = gs ∧ (∀ k, k < l.length → edgeAt (2 + s.val 2).toNat l k = true) ∧ 1 ≤ l.length ∧ l.length ≤ 3 := ⟨_, rfl, hi3.at_, by have h_ := h8; simp at h_; exact List.length_pos_iff.2 h_, hi2⟩
 refine Tr.reC 1 [slice 9 (es.map rowEp), edgs gs2, is (.slice none 0 0)] rfl ⟨Pr.le_refl _, Pr.le_trans (andIs_le _ _) (Pr.le_of_eq (by rw [hge])), Pr.le_refl _, trivial⟩ (Tr.drop 0 (Tr.regT (tm rfl (TO.efc 2 rfl rfl (by decide) (ef_callc rfl rfl (by decide) rfl (w_DNext (by omega) (by omega)) ⟨ke rfl, ke rfl, trivial⟩) (tm rfl (TO.nil (Fin.go (wk4 0 2 3 10 rfl (Tr.block (Tr.reC 0 [slice 9 (es.map rowEp), edgs gs2, andIs (.slice none 0 0) (itms [])] rfl ⟨Pr.le_refl _, Pr.le_refl _, own_nil rfl, trivial⟩ (Tr.addnil 107 5 ?_)))))))))))
 refine Tr.loopD3V1 [(0, _), (2, _), (3, _)] ⟨ke rfl, ke rfl, ke rfl, trivial⟩ (fun (q : Int) (its : List Itm) (s5 : DS) x => [(10, int q)]) (fun (q : Int) (its : List Itm) (s5 : DS) x => Hp M0 w0 S (appRes 107 5 x :: cellsRes true b2 41 [slice 9 (es.map rowEp), edgs gs2, andIs x (itms its)] :: cellsRes true b1 41 (([.slice none 0 0, .slice none 0 0, .slice none 0 0] : List Value).map is) :: diceS b s5 :: extRes M1 w1 :: rs)) (fun (q : Int) (its : List Itm) (s5 : DS) => 0 ≤ q ∧ q + its.length ≤ 2 ∧ ∀ x ∈ its, ItmS x) (fun (q : Int) (its : List Itm) (s5 : DS) => q.toNat) (_) ([]) (_) (.slice none 0 0) (⟨by omega, by simp; omega, fun x h => by simp at h⟩) ⟨ke rfl, trivial⟩ (fun _ _ h => h) ?_
 rintro q its s5 x ⟨hq1, hq2, hqi⟩
 refine Tr.seq (Tr.seq (Tr.reg0 (cm rfl (co rfl (ki rfl rfl rfl rfl) (Ch.nil (Fin.go ?_))))))
 refine Tr.cn rfl ?_ ?_ <;> intro h10 q10
 have hq3 : 0 < q := of_decide_eq_true h10
 refine Tr.skip (Fin.go (Tr.seq (Tr.block (Tr.pad (Tr.regX mixed [none, some (0, 2, false, 0), none, none, none, some (0, 4, true, 0), some (0, 4, true, 0), none, some (0, 1, true, 119), none, some (0, 2, true, 119)] (by kernel_rfl) (xo rfl (fun _ => okp_fieldAddr rfl fo41_2 (vl rfl)) (xrd 2 rfl rfl (rd_load1 rfl one39 (vl rfl) rfl) (xm rfl (xm rfl (xo rfl (fun _ => ok_buildSlice (xs := [.const (.string ⟨[98, 97, 99, 107, 117, 112].toArray⟩), .const (.string ⟨[100, 101, 101, 100].toArray⟩)]) (rows := [[_], [_]]) rfl rfl Tryz.underlying74 sz9 z9 rfl (by decide) ⟨⟨(by exact rfl), (VL.le (vl rfl) (one_cellsP _))⟩, ⟨⟨(by exact rfl), (VL.le (vl rfl) (one_cellsP _))⟩, trivial⟩⟩ (by decide)) ?_))))))))))
 refine Cx.ef 4 rfl rfl (by decide) (ef_callc rfl rfl (by decide) rfl (w_DWordE (l := [[98, 97, 99, 107, 117, 112], [100, 101, 101, 100]]) (by simp) (by simp)) ⟨ke rfl, ⟨_, rfl, full_le _ _⟩, trivial⟩) ?_
 refine Cx.ef 4 rfl rfl (by decide) (ef_callc rfl rfl (by decide) rfl (w_ItemF) ⟨ke rfl, ke rfl, trivial⟩) (xo rfl (fun _ => ok_buildSlice (xs := [.tmp 117]) (rows := [_]) rfl rfl Tryz.underlying39 sz107 z107 rfl (by decide) ⟨⟨(by exact rfl), (VL.le (vl rfl) (agg_cellsP _))⟩, trivial⟩ (by decide)) ?_)
 refine Cx.ef 1 rfl rfl (by decide) (ef_append rfl rfl (by decide) rfl Tryz.underlying39 sz107 by107 z107 rfl (by decide) ⟨_, rfl, andIs_le _ _⟩ ⟨_, rfl, full_le _ _⟩ (by simp only [List.length_append, List.length_cons, List.length_nil, List.length_map]; unfold maxLen; omega) (by simp only [List.length_append, List.length_cons, List.length_nil, List.length_map]; omega) (appR_is (by exact List.Mem.head _) ⟨_, rfl, andIs_is _ _⟩)) ?_
 refine xo rfl (fun _ => okp_fieldAddr rfl fo41_2 (vl rfl)) (Cx.ef0 2 rfl rfl (ef_storeS rfl rfl rfl (vl rfl) rfl sz39 (by exact Nat.le_of_ble_eq_true rfl)) ?_)
 refine Cx.nil ⟨rfl, ?_⟩
 refine FinX.open2 1 2 119 rfl rfl (by decide) rfl (fun v7 => ?_)
 refine FinX.done (AllC.cons (AllC.cons (AllC.cons (AllC.cons (AllC.cons (AllC.cons (AllC.map _))))))) (Fin.block (Fin.go (Tr.drop 0 (wk4 0 2 3 10 rfl (Tr.reg0 (cm rfl (csu rfl rfl rfl rfl (by omega) (cm rfl (Ch.nil ?_)))))))))
 refine Fin.reC 1 [slice 9 (es.map rowEp), edgs gs2, andIs v7 (itms (its ++ [(itemF s5.adv (wordOf s5 [backup, deed]))]))] rfl ⟨Pr.le_refl _, Pr.le_refl _, own_le (by rw [List.map_append]; rfl), trivial⟩ ?_
 exact Fin.famD3V1 (q - 1) (its ++ [(itemF s5.adv (wordOf s5 [backup, deed]))]) (_) v7 (⟨⟨by omega, by simp; omega, its_snoc hqi (item_ok (word_ok s5))⟩, by omega⟩) ⟨⟨_, rfl, int_eq (by omega)⟩, ke rfl, ke rfl, ke rfl, trivial⟩ (fun _ _ h => h)
 have hq3 : ¬ 0 < q := of_decide_eq_false h10
 refine Tr.exit (Fin.then_exit (Fin.then_exit (Fin.block_here (Fin.go (Tr.seq (Tr.regT (TO.rd 1 rfl rfl rfl (by decide) (rd_loadA rfl agg41 sz41 (vl rfl) rfl rfl) (TO.store_all 2 rfl rfl rfl (vl rfl) (VL.le (vl rfl) (agg_cellsP _)) rfl sz41 rfl rfl (TO.nil (Fin.go (Tr.ret (Fin.closeD 3 _ rfl rfl (Fin.retY1 [_, _, _] rfl (RVal.cell 2 rfl rfl agg41 sz41 rfl (Pr.le_refl _)) ?_ (fun _ _ _ _ => rfl))))))))))))))
 · exact ex_in ⟨es, gs2, its⟩ (fact_in ⟨by show 2 ≤ es.length; omega, by show es.length ≤ 3; omega, hk3, by show ∀ k, k < gs2.length → edgeAt es.length gs2 k = true; rw [hk2, hke]; exact hge2, hge3, hge4, hqi, by show its.length ≤ 2; omega⟩ (agg_le ⟨Pr.le_refl _, Pr.le_refl _, andIs_le _ _, trivial⟩))
end Go.Proofs.YtppeeogffbpcbaaGreat
namespace Go.Proofs.YtppeeogffbpcbaaGreat
open Go Go.RowKit Cp

theorem doneR_name {e x : Ept} {c b : Chg} (h : doneR e c = (x, b, 0)) : x.name = e.name := by
  obtain ⟨_, h2, h3, _⟩ := doneR_inv h
  rcases kinds12 h2.1 with hk | hk | hk | hk | hk | hk | hk | hk | hk | hk | hk | hk
  · rw [stepR_1 hk] at h3; (repeat' (split at h3)) <;> first | (cases h3; done) | (injection h3 with h3; obtain ⟨rfl, rfl⟩ := Prod.mk.inj h3; rfl)
  · rw [stepR_2 hk] at h3; (repeat' (split at h3)) <;> first | (cases h3; done) | (injection h3 with h3; obtain ⟨rfl, rfl⟩ := Prod.mk.inj h3; rfl)
  · rw [stepR_3 hk] at h3; (repeat' (split at h3)) <;> first | (cases h3; done) | (injection h3 with h3; obtain ⟨rfl, rfl⟩ := Prod.mk.inj h3; rfl)
  · rw [stepR_4 hk] at h3; (repeat' (split at h3)) <;> first | (cases h3; done) | (injection h3 with h3; obtain ⟨rfl, rfl⟩ := Prod.mk.inj h3; rfl)
  · rw [stepR_5 hk] at h3; (repeat' (split at h3)) <;> first | (cases h3; done) | (injection h3 with h3; obtain ⟨rfl, rfl⟩ := Prod.mk.inj h3; rfl)
  · rw [stepR_6 hk] at h3; (repeat' (split at h3)) <;> first | (cases h3; done) | (injection h3 with h3; obtain ⟨rfl, rfl⟩ := Prod.mk.inj h3; rfl)
  · rw [stepR_7 hk] at h3; (repeat' (split at h3)) <;> first | (cases h3; done) | (injection h3 with h3; obtain ⟨rfl, rfl⟩ := Prod.mk.inj h3; rfl)
  · rw [stepR_8 hk] at h3; (repeat' (split at h3)) <;> first | (cases h3; done) | (injection h3 with h3; obtain ⟨rfl, rfl⟩ := Prod.mk.inj h3; rfl)
  · rw [stepR_9 hk] at h3; (repeat' (split at h3)) <;> first | (cases h3; done) | (injection h3 with h3; obtain ⟨rfl, rfl⟩ := Prod.mk.inj h3; rfl)
  · rw [stepR_10 hk] at h3; (repeat' (split at h3)) <;> first | (cases h3; done) | (injection h3 with h3; obtain ⟨rfl, rfl⟩ := Prod.mk.inj h3; rfl)
  · rw [stepR_11 hk] at h3; (repeat' (split at h3)) <;> first | (cases h3; done) | (injection h3 with h3; obtain ⟨rfl, rfl⟩ := Prod.mk.inj h3; rfl)
  · rw [stepR_12 hk] at h3; (repeat' (split at h3)) <;> first | (cases h3; done) | (injection h3 with h3; obtain ⟨rfl, rfl⟩ := Prod.mk.inj h3; rfl)

theorem done_at {x : Ept} {c : Chg} (h : (doneR x c).2.2 = 0) : eptB (doneR x c).1 = true ∧ (doneR x c).1.name = x.name := by
  have h2 : doneR x c = ((doneR x c).1, (doneR x c).2.1, 0) := by rw [← h]
  exact ⟨eptB_iff.2 (doneR_inv h2).2.2.2, doneR_name h2⟩
theorem apE_ok {l : List Ept} {c : Chg} (h : (apE l c).2 = 0) : ∃ x, 0 ≤ c.endpoint ∧ l[c.endpoint.toNat]? = some x ∧ (doneR x c).2.2 = 0 ∧ (apE l c).1 = l.set c.endpoint.toNat (doneR x c).1 := by
  by_cases hb : c.endpoint < 0 ∨ ((l.length : Nat) : Int) ≤ c.endpoint
  · rw [apE_bad hb] at h; cases h
  · obtain ⟨x, hx⟩ := at_ (l := l) (k := c.endpoint.toNat) (by omega)
    rw [apE_at hb hx] at h ⊢
    by_cases h0 : (doneR x c).2.2 = 0
    · rw [if_pos h0]; exact ⟨x, by omega, hx, h0, rfl⟩
    · rw [if_neg h0] at h; exact absurd h h0
theorem epAt_set {l : List Ept} {k : Nat} {x y : Ept} (h : ∀ j, j < l.length → epAt l j = true) (hk : l[k]? = some x) (hv : eptB y = true) (hn : y.name = x.name) : ∀ j, j < (l.set k y).length → epAt (l.set k y) j = true := by
  intro j hj
  rw [List.length_set] at hj
  have hkl := lt_of_at hk
  have hj0 := h j hj
  have nm : ∀ i, i < l.length → ((l.set k y)[i]?.getD zeroEp).name = (l[i]?.getD zeroEp).name := by
    intro i hi
    by_cases hik : k = i
    · subst hik; rw [List.getElem?_set_self hkl, hk]; exact hn
    · rw [List.getElem?_set_ne hik]
  unfold epAt at hj0 ⊢
  rw [nm j hj]
  simp only [Bool.and_eq_true] at hj0 ⊢
  refine ⟨?_, ?_⟩
  · by_cases hjk : k = j
    · subst hjk; rw [List.getElem?_set_self hkl]; exact hv
    · rw [List.getElem?_set_ne hjk]; exact hj0.1
  · rcases Nat.eq_zero_or_pos j with hz | hz
    · simp [hz]
    · rw [nm (j - 1) (by omega)]; exact hj0.2
theorem ap_valid {e : Est} {c : Chg} (h : estB e = true) (h0 : (apE e.eps c).2 = 0) : estB ⟨(apE e.eps c).1, e.edges, e.items⟩ = true := by
  obtain ⟨x, _, hx, hd, hs⟩ := apE_ok h0
  have ok := est_iff.1 h
  have hl := apE_len e.eps c
  refine est_iff.2 ⟨?_, by show (apE e.eps c).1.length ≤ 16; rw [hl]; exact ok.e16, by show ∀ j, j < e.edges.length → edgeAt (apE e.eps c).1.length e.edges j = true; rw [hl]; exact ok.ed, ok.e40, ok.it, ok.i30⟩
  show ∀ j, j < (apE e.eps c).1.length → epAt (apE e.eps c).1 j = true
  rw [hs]
  exact epAt_set ok.ep hx (done_at hd).1 (done_at hd).2
theorem run_valid {e : Est} {l : List Chg} : ∀ (s : List Int) (eps : List Ept), estB ⟨eps, e.edges, e.items⟩ = true → (runE l s eps).2 = 0 → estB ⟨(runE l s eps).1, e.edges, e.items⟩ = true
  | [], eps, h, _ => h
  | i :: s, eps, h, h0 => by
    rw [runE] at h0 ⊢
    split at h0
    · exact h
    next c hc =>
    by_cases ha : (apE eps c).2 = 0
    · rw [if_pos ha] at h0 ⊢
      exact run_valid s _ (ap_valid (e := ⟨eps, e.edges, e.items⟩) h ha) h0
    · rw [if_neg ha] at h0; exact absurd h0 ha
theorem run_sz {l : List Chg} {n : Nat} (hc : ∀ c ∈ l, c.idn.fits ∧ c.idn.small) : ∀ (s : List Int) (eps : List Ept), (∀ x ∈ eps, x.sz n) → (∀ x ∈ (runE l s eps).1, x.sz (n + s.length)) ∧ (runE l s eps).1.length = eps.length
  | [], eps, h => ⟨h, rfl⟩
  | i :: s, eps, h => by
    rw [runE]
    split
    · exact ⟨fun x hx => (h x hx).le (by omega), rfl⟩
    next c hcc =>
    by_cases ha : (apE eps c).2 = 0
    · rw [if_pos ha]
      have := run_sz (n := n + 1) hc s (apE eps c).1 (apE_sz h (hc c (List.mem_of_getElem? hcc)))
      rw [apE_len] at this
      exact ⟨fun x hx => by rw [List.length_cons, show n + (s.length + 1) = n + 1 + s.length by omega]; exact this.1 x hx, this.2⟩
    · rw [if_neg ha]; exact ⟨fun x hx => (h x hx).le (by omega), rfl⟩
theorem st_sz {e : Est} {l : List Chg} {s : List Int} {n : Nat} (hz : e.sz n) (hc : ∀ c ∈ l, c.idn.fits ∧ c.idn.small) : (stE e l s).1.sz (n + s.length) := by
  have h0 : zeroSt.sz (n + s.length) := ⟨(fun x hx => by cases hx), (fun x hx => by cases hx), Nat.zero_le _, Nat.zero_le _, Nat.zero_le _⟩
  obtain ⟨h1, h2⟩ := run_sz hc s e.eps hz.eps
  unfold stE
  repeat' split
  · exact h0
  · exact h0
  · exact h0
  · exact ⟨h1, hz.items, by show (runE l s e.eps).1.length ≤ _; rw [h2]; exact hz.le, hz.lg, hz.li⟩
  · exact h0
theorem run_snoc {l : List Chg} {i : Int} {c : Chg} (hc : l[i.toNat]? = some c) : ∀ (s : List Int) (eps : List Ept), (∀ j ∈ s, ∃ d, l[j.toNat]? = some d) → runE l (s ++ [i]) eps = if (runE l s eps).2 = 0 then (if (apE (runE l s eps).1 c).2 = 0 then ((apE (runE l s eps).1 c).1, 0) else ((runE l s eps).1, (apE (runE l s eps).1 c).2)) else runE l s eps
  | [], eps, _ => by simp [runE, hc]; rfl
  | j :: s, eps, h => by
    obtain ⟨d, hd⟩ := h j (List.mem_cons_self ..)
    rw [List.cons_append, runE, hd, runE, hd]
    by_cases ha : (apE eps d).2 = 0
    · show (if _ then _ else _) = _
      simp only [if_pos ha]
      exact run_snoc hc s _ (fun q hq => h q (List.mem_cons_of_mem _ hq))
    · simp only [if_neg ha]
theorem set_take {n : Int} {s : List Int} {k : Nat} (h : setB n s = true) : setB n (s.take k) = true := by
  unfold setB at h ⊢; rw [allI_iff] at h ⊢
  intro j hj
  rw [List.length_take] at hj
  have := h j (by omega)
  unfold setAt at this ⊢
  rw [List.getElem?_take, if_pos (by omega), List.getElem?_take, if_pos (by omega)]; exact this
theorem take_last {β : Type} {s : List β} {x : β} (h : s[s.length - 1]? = some x) : s = s.take (s.length - 1) ++ [x] := by
  have hl := lt_of_at h
  conv => lhs; rw [← List.take_length (l := s), show s.length = (s.length - 1) + 1 by omega, List.take_add_one, h]
  rfl
theorem st_nil {e : Est} {l : List Chg} (h : estB e = true) (hl : l.length ≤ 24) : stE e l [] = (e, 0) := by
  unfold stE; rw [if_neg (by simp [h]), if_neg (by omega), if_neg (by rw [show setB (l.length : Nat) [] = true from rfl]; decide)]; rfl
theorem st_ok {e : Est} {l : List Chg} {s : List Int} (h : estB e = true) (hl : l.length ≤ 24) (hs : setB l.length s = true) : stE e l s = if (runE l s e.eps).2 = 0 then (⟨(runE l s e.eps).1, e.edges, e.items⟩, 0) else (zeroSt, (runE l s e.eps).2) := by
  unfold stE; rw [if_neg (by simp [h]), if_neg (by omega), if_neg (by simp [hs])]
/-- The last change of a set. -/
theorem st_last {e : Est} {l : List Chg} {s : List Int} {i : Int} {c : Chg} (h : estB e = true) (hl : l.length ≤ 24) (hs : setB l.length s = true) (hi : s[s.length - 1]? = some i) (hc : l[i.toNat]? = some c) {x y : Est} {f g : Int} (hS : stE e l s = (x, f)) (hT : stE e l (s.take (s.length - 1)) = (y, g)) : (g ≠ 0 → f = g) ∧ (g = 0 → aplE y c = (x, f)) := by
  have hst := set_take (k := s.length - 1) hs
  rw [st_ok h hl hs, take_last hi, run_snoc hc _ _ (fun j hj => by
    obtain ⟨k, hk⟩ := List.getElem?_of_mem hj
    have := set_mem hst hk
    exact at_ (by omega))] at hS
  rw [st_ok h hl hst] at hT
  by_cases h0 : (runE l (s.take (s.length - 1)) e.eps).2 = 0
  · rw [if_pos h0] at hT hS
    obtain ⟨rfl, rfl⟩ := Prod.mk.inj hT
    refine ⟨fun hg => absurd rfl hg, fun _ => ?_⟩
    unfold aplE
    rw [if_neg (by rw [run_valid (e := e) _ _ h h0]; decide)]
    unfold stp
    rw [← hS]
    by_cases ha : (apE (runE l (s.take (s.length - 1)) e.eps).1 c).2 = 0
    · simp only [if_pos ha, if_true]
    · simp only [if_neg ha]
  · rw [if_neg h0] at hT hS
    obtain ⟨rfl, rfl⟩ := Prod.mk.inj hT
    refine ⟨fun _ => ?_, fun hg => absurd hg h0⟩
    rw [if_neg h0] at hS
    exact (Prod.mk.inj hS).2.symm
theorem SndSt.sz {e : Est} (h : SndSt e) : e.sz 5 := by
  have h3 := h.n3; have g3 := h.g3; have i2 := h.i2
  refine ⟨fun x hx => ?_, fun x hx => ⟨by have := (h.it x hx).name; unfold maxLen; omega, by have := (h.it x hx).links; omega⟩, by omega, by omega, by omega⟩
  obtain ⟨i, hi⟩ := List.getElem?_of_mem hx
  exact sndE_sz (h.snd i x hi)
theorem zeroSt_sz : zeroSt.sz 0 := ⟨(fun x hx => by cases hx), (fun x hx => by cases hx), Nat.zero_le _, Nat.zero_le _, Nat.zero_le _⟩
theorem zeroSt_ok : estB zeroSt = true := by decide
theorem apl_zero (c : Chg) (h : c.endpoint = 0) : aplE zeroSt c = (zeroSt, 40) := by
  unfold aplE; rw [if_neg (by rw [zeroSt_ok]; decide)]; unfold stp; rw [apE_bad (.inr (by rw [h]; exact Int.le_refl _))]; rfl
theorem st_of {e : Est} {l : List Chg} {s : List Int} {n : Nat} {x : Est} {f : Int} (h : stE e l s = (x, f)) (hz : e.sz n) (hn : n ≤ 800000) (hc : ∀ c ∈ l, c.idn.fits ∧ c.idn.small) : Fun Tryz.prog 31 [agg (rowSt e), slice 8 (l.map rowChg), ints s] (tup [agg (rowSt x), int f]) := by
  have := w_EsState (e := e) (l := l) (s := s) hz hn hc; rw [h] at this; exact this
theorem eapl_of {e : Est} {c : Chg} {n : Nat} {x : Est} {f : Int} (h : aplE e c = (x, f)) (hz : e.sz n) (hn : n ≤ 800000) (hc : c.idn.fits ∧ c.idn.small) : Fun Tryz.prog 33 [agg (rowSt e), agg (rowChg c)] (tup [agg (rowSt x), int f]) := by
  have := w_EsApply (e := e) (c := c) hz hn hc; rw [h] at this; exact this

theorem w_awake25   : Fun Tryz.prog 28 [] (bool true) := by
 refine fo Tryz.func28 rfl ⟨rfl, rfl⟩ fun M0 w0 => ?_
 refine ac ?_
 refine ac ?_
 refine co rfl (ok_call rfl (w_EsIndex (e := zeroSt) (n := [97, 112, 112])) ⟨⟨_, rfl, agg_le ⟨nil_slice 9, nil_slice 2, nil_slice 5, trivial⟩⟩, ke rfl, trivial⟩) ?_
 refine ac ?_
 refine ao ?_
 refine tp rfl (ok_call rfl (eapl_of (e := zeroSt) (c := ⟨0, 1, 0, 0, zeroId⟩) (apl_zero _ rfl) zeroSt_sz (by omega) ⟨id0_fits, id0_small⟩) ⟨⟨_, rfl, agg_le ⟨nil_slice 9, nil_slice 2, nil_slice 5, trivial⟩⟩, ⟨_, rfl, agg_le ⟨Pr.le_refl _, Pr.le_refl _, Pr.le_refl _, Pr.le_refl _, Pr.le_refl _, Pr.le_refl _, Pr.le_refl _, nil_slice 15, trivial⟩⟩, trivial⟩) ?_
 refine ao ?_
 refine TO.alloc rfl rfl (by decide) rfl z41 zo41 (fun b1 => ?_)
 refine sf 0 3 ⟨rfl, rfl, rfl⟩ rfl rfl rfl rfl ?_
 refine ao ?_
 refine wk2 2 4 rfl ?_
 refine ac ?_
 refine Ch.cs 18 rfl ?_ ?_ <;> intro h1 q1
 refine ac ?_
 refine Ch.cs 22 rfl ?_ ?_ <;> intro h2 q2
 refine ac ?_
 refine cy h2 rfl (ok_call rfl (w_EsSame (a := zeroSt) (b := zeroSt)) ⟨⟨_, rfl, agg_le ⟨nil_slice 9, nil_slice 2, nil_slice 5, trivial⟩⟩, ⟨_, rfl, agg_le ⟨nil_slice 9, nil_slice 2, nil_slice 5, trivial⟩⟩, trivial⟩) ?_
 refine ac ?_
 refine Ch.cs 27 rfl ?_ ?_ <;> intro h3 q3
 refine ac ?_
 refine cy h3 rfl (ok_build (rows := [(1, [_])]) rfl bl41 zo41 ⟨⟨rfl, ⟨_, rfl, Pr.le_trans (full_le _ _) (one_cellsP _)⟩⟩, trivial⟩ rfl) ?_
 refine cy h3 rfl (ok_call rfl (w_EsSame (a := zeroSt) (b := ⟨[], [⟨0, 1⟩], []⟩)) ⟨⟨_, rfl, agg_le ⟨nil_slice 9, nil_slice 2, nil_slice 5, trivial⟩⟩, ⟨_, rfl, agg_le ⟨nil_slice 9, Pr.le_of_eq rfl, nil_slice 5, trivial⟩⟩, trivial⟩) ?_
 refine ac ?_
 refine wk1 0 rfl ?_
 refine ac ?_
 · exact bool_eq (by decide)
 exact absurd h3 (by decide)
 exact absurd h2 (by decide)
 exact absurd h1 (by decide)
end Go.Proofs.YtppeeogffbpcbaaGreat
namespace Go.Proofs.YtppeeogffbpcbaaGreat
open Go Go.RowKit Cp Go.ChangeShapes Go.WideShapes Go.ChangeAt

structure Est.big2 (e : Est) : Prop where
  le_ : e.eps.length ≤ 1000000000000
  lg_ : e.edges.length ≤ 1000000000000
  li_ : e.items.length ≤ 1000000000000
  lk_ : ∀ x ∈ e.items, x.links.length ≤ 1000000000000
theorem big2_of {e : Est} {n : Nat} (h : e.sz n) : e.big2 := ⟨by have := h.le; omega, by have := h.lg; omega, by have := h.li; omega, fun x hx => by have := (h.items x hx).2; omega⟩

theorem w_EstateSteps {t : List Int}  : Fun Tryz.prog 4 [ints t] (bool true) := by
 refine Fun.of Tryz.func4 rfl rfl (by exact Nat.le_of_ble_eq_true rfl) fun M0 w0 => ?_
 refine Tr.seq (Tr.reg0 (cm rfl (Ch.nil (Fin.go (Tr.seq (Tr.seq (Tr.reg0 (cm rfl (co rfl (ok_call rfl (w_Light) ⟨ke rfl, trivial⟩) (co rfl (ok_not rfl (vl rfl)) (Ch.nil (Fin.go ?_))))))))))))
 refine Tr.cn rfl ?_ ?_ <;> intro h1 q1
 refine Tr.seq (Tr.reg0 (co rfl (ok_call rfl (w_awake25) trivial) (cm rfl (Ch.nil (Fin.go (Tr.ret (Fin.then_ret (Fin.ret1 rfl (OutW.bse _ _) rfl ?_))))))))
 · exact Pr.le_refl _
 have ht4 : t.length ≤ 400 := by simpa using h1
 have ht9 : t.length ≤ 1000000000 := by omega
 refine Tr.skip (Fin.go (Tr.seq (Tr.regT (tm rfl (TO.pad ?_)))))
 refine TO.efs 0 rfl rfl (by decide) (ef_call rfl rfl (by decide) rfl (w_Roll (l := t) ht9) ⟨ke rfl, trivial⟩) (fun v1 => ?_)
 refine TO.opn 20 0 _ rfl rfl (fun _ => rfl) (fun b1 => ?_)
 refine tm rfl (TO.nil (Fin.go (Tr.seq (Tr.regT (tm rfl (TO.efc 0 rfl rfl (by decide) (ef_callc rfl rfl (by decide) rfl (w_SoundS) ⟨ke rfl, trivial⟩) ?_))))))
 refine TO.ex 22 rfl (fun z1 => TO.fact 22 rfl fun hz1 => ?_)
 have hez := hz1.sz
 have hok := hz1.ok
 have hn2 := hz1.n2
 have hn3 := hz1.n3
 refine TO.alloc rfl rfl (by decide) rfl z41 zo41 (fun b2 => ?_)
 refine TO.store_all 0 rfl rfl rfl (vl rfl) (VL.le (vl rfl) (agg_cellsP _)) rfl sz41 rfl rfl (TO.freeze 0 4 rfl rfl (TO.nil (Fin.openD 0 rfl (fun s1 => ?_))))
 refine Fin.go (Tr.seq (Tr.regT (tm rfl (tp rfl (ok_loadA rfl agg41 sz41 (vl rfl) rfl rfl) (TO.efc 0 rfl rfl (by decide) (ef_callc rfl rfl (by decide) rfl (w_Moves hz1.snd ⟨by omega, by omega⟩) ⟨ke rfl, ke rfl, trivial⟩) ?_)))))
 refine TO.ex 25 rfl (fun z2 => TO.fact 25 rfl fun hz2 => ?_)
 have hzc : ∀ c ∈ z2, c.idn.fits ∧ c.idn.small := fun c hc => ⟨(hz2.any c hc).fits, (hz2.any c hc).small⟩
 have hl7 := hz2.len
 refine tm rfl (TO.nil (Fin.openD 0 rfl (fun s2 => ?_)))
 refine Fin.go (wk3 3 4 5 rfl (Tr.seq (Tr.regT (tm rfl (tm rfl (tp rfl (ok_lenm rfl Tryz.underlying47 (vl rfl)) ?_))))))
 refine TO.efc 0 rfl rfl (by decide) (ef_callc rfl rfl (by decide) rfl (w_mvSet (n := ((z2.length : Nat) : Int)) (by omega)) ⟨ke rfl, ke rfl, trivial⟩) ?_
 refine TO.ex 29 rfl (fun z3 => TO.fact 29 rfl fun hz3 => ?_)
 have hs3 := set_len hz3
 refine tm rfl (TO.nil (Fin.openD 0 rfl (fun s3 => ?_)))
 refine Fin.go (Tr.seq (Tr.seq (Tr.reg0 (cm rfl (co rfl (ok_lenm rfl Tryz.underlying59 (vl rfl)) (co rfl (ki rfl rfl rfl rfl) (Ch.nil (Fin.go ?_))))))))
 refine Tr.cn rfl ?_ ?_ <;> intro h2 q2
 have hz0 : z3 = [] := List.eq_nil_of_length_eq_zero (by have := q2; omega)
 subst hz0
 have hA : stE z1 z2 [] = (z1, 0) := st_nil hok (by omega)
 refine Tr.seq (Tr.regT (tp rfl (ok_loadA rfl agg41 sz41 (vl rfl) rfl rfl) (tm rfl (tm rfl (tp rfl (ok_call rfl (st_of hA hez (by omega) hzc) ⟨ke rfl, ke rfl, ke rfl, trivial⟩) (tm rfl (tp rfl (ok_extract rfl (vl rfl) rfl) (tp rfl (ok_extract rfl (vl rfl) rfl) ?_))))))))
 refine TO.alloc rfl rfl (by decide) rfl z41 zo41 (fun b3 => ?_)
 refine TO.store_all 0 rfl rfl rfl (vl rfl) (VL.le (vl rfl) (agg_cellsP _)) rfl sz41 rfl rfl (TO.freeze 0 7 rfl rfl (tm rfl (TO.nil (Fin.go (wk3 4 7 8 rfl (Tr.seq (Tr.reg0 (cm rfl (co rfl (ki rfl rfl rfl rfl) (cm rfl ?_))))))))))
 refine Ch.cs 42 rfl ?_ ?_ <;> intro h3 q3
 refine cy h3 rfl (ok_loadA rfl agg41 sz41 (vl rfl) rfl rfl) (cy h3 rfl (ok_loadA rfl agg41 sz41 (vl rfl) rfl rfl) ?_)
 refine cy h3 rfl (ok_call rfl (w_EsSame (a := z1) (b := z1)) ⟨ke rfl, ke rfl, trivial⟩) ?_
 refine co rfl (kpt rfl rfl h3 rfl) (cm rfl ?_)
 refine Ch.cs 47 rfl ?_ ?_ <;> intro h4 q4
 refine cy h4 rfl (ok_call rfl (w_awake25) trivial) (co rfl (kpt rfl rfl h4 rfl) (cm rfl (Ch.nil (Fin.go (wk1 2 rfl (Tr.ret (Fin.then_ret (Fin.ret1 rfl (OutW.bse _ _) rfl ?_))))))))
 · exact Pr.le_refl _
 exfalso; simp_all
 exfalso; simp_all
 obtain ⟨x, f, hS⟩ : ∃ x f, stE z1 z2 z3 = (x, f) := ⟨_, _, rfl⟩
 obtain ⟨y, g, hT⟩ : ∃ y g, stE z1 z2 (z3.take (z3.length - 1)) = (y, g) := ⟨_, _, rfl⟩
 obtain ⟨i, hi⟩ := at_ (l := z3) (k := z3.length - 1) (by have := q2; omega)
 have him := set_mem hz3 hi
 obtain ⟨c, hc⟩ := at_ (l := z2) (k := i.toNat) (by omega)
 obtain ⟨hL1, hL2⟩ := st_last hok (by omega) hz3 hi hc hS hT
 have hxb := big2_of (by have := st_sz (l := z2) (s := z3) hez hzc; rw [hS] at this; exact this)
 have hyz := st_sz (l := z2) (s := z3.take (z3.length - 1)) hez hzc
 rw [hT] at hyz
 have hyl : (z3.take (z3.length - 1)).length ≤ 24 := by rw [List.length_take]; omega
 refine Tr.skip (Fin.go (Tr.seq (Tr.regT (tp rfl (ok_loadA rfl agg41 sz41 (vl rfl) rfl rfl) (tm rfl (tm rfl (tp rfl (ok_call rfl (st_of hS hez (by omega) hzc) ⟨ke rfl, ke rfl, ke rfl, trivial⟩) (tm rfl (tp rfl (ok_extract rfl (vl rfl) rfl) (tp rfl (ok_extract rfl (vl rfl) rfl) ?_))))))))))
 refine TO.alloc rfl rfl (by decide) rfl z41 zo41 (fun b4 => ?_)
 refine TO.store_all 0 rfl rfl rfl (vl rfl) (VL.le (vl rfl) (agg_cellsP _)) rfl sz41 rfl rfl (TO.freeze 0 9 rfl rfl (tm rfl (TO.nil (Fin.go (wk5 4 5 6 9 10 rfl (Tr.seq (Tr.pad (Tr.regX mixed [none, none, none, none, none, none, none, none, none, none, none, some (0, 0, true, 11), some (11, 0, true, 11), none] (by kernel_rfl) (xo rfl (fun _ => ok_loadA rfl agg41 sz41 (vl rfl) rfl rfl) (xm rfl (xm rfl (xm rfl (xo rfl (fun _ => ok_lenm rfl Tryz.underlying59 (vl rfl)) ?_)))))))))))))
 refine xo rfl (fun _ => ok_sub rfl (vl rfl) (vl rfl) ?hin) ?_; case hin => unfold InI; omega
 refine xo rfl (fun _ => ok_sliceTo rfl Tryz.underlying59 sz3 (vl rfl) (vl rfl) (by omega) (by simp; omega)) ?_
 refine xo rfl (fun _ => ok_call rfl (st_of hT hez (by omega) hzc) ⟨ke rfl, ke rfl, ⟨_, rfl, Pr.le_of_eq (by rw [← List.map_take, show (((z3.length : Nat) : Int) - 1).toNat = z3.length - 1 by omega])⟩, trivial⟩) (xm rfl (xo rfl (fun _ => ok_extract rfl (vl rfl) rfl) (xo rfl (fun _ => ok_extract rfl (vl rfl) rfl) (Cx.ef 0 rfl rfl (by decide) (ef_allocX rfl rfl (by decide) rfl z41 zo41) (Cx.ef0 0 rfl rfl (ef_storeX rfl rfl rfl rfl (VL.le (vl rfl) (agg_cellsP _)) sz41 rfl rfl) (xm rfl ?_))))))
 refine Cx.nil ⟨rfl, ?_⟩
 refine FinX.open_ 0 11 rfl rfl (fun v2 => ?_)
 refine FinX.done (AllC.cons (AllC.cons (AllC.map _))) (Fin.opn 11 0 _ rfl rfl (fun _ => rfl) (fun b5 => ?_))
 refine Fin.go (wk6 5 6 9 10 11 12 rfl (Tr.seq (Tr.seq (Tr.reg0 (cm rfl (co rfl (ki rfl rfl rfl rfl) (Ch.nil (Fin.go ?_))))))))
 refine Tr.cn rfl ?_ ?_ <;> intro h5 q5
 have hfg := hL1 (by have := q5; omega)
 refine Tr.seq (Tr.reg0 (cm rfl (cm rfl (co rfl (ki rfl rfl rfl rfl) (cm rfl ?_)))))
 refine Ch.cs 73 rfl ?_ ?_ <;> intro h6 q6
 refine cy h6 rfl (ok_call rfl (w_awake25) trivial) (co rfl (kpt rfl rfl h6 rfl) (cm rfl (Ch.nil (Fin.go (Tr.drop 0 (wk1 2 rfl (Tr.ret (Fin.then_ret (Fin.ret1 rfl (OutW.bse _ _) rfl ?_)))))))))
 · exact Pr.le_refl _
 exfalso; simp_all
 have hap := hL2 (by have := q5; omega)
 refine Tr.skip (Fin.go (Tr.seq (Tr.pad (Tr.regX mixed [some (0, 1, false, 0), none, none, none, none, none, none, none, none, none, none, none, none, none, some (0, 0, true, 13), some (13, 0, true, 13), none] (by kernel_rfl) (xrd 1 rfl rfl (rd_loadA rfl agg41 sz41 (vl rfl) rfl rfl) (xm rfl (xm rfl (xm rfl (xo rfl (fun _ => ok_lenm rfl Tryz.underlying59 (vl rfl)) ?_)))))))))
 refine xo rfl (fun _ => ok_sub rfl (vl rfl) (vl rfl) ?hin) ?_; case hin => unfold InI; omega
 refine xo rfl (fun _ => ok_indexAddr rfl Tryz.underlying59 sz3 (vl rfl) (vl rfl) (by omega) (row_atI (f := fun n : Int => [int n]) (by rw [show (((z3.length : Nat) : Int) - 1).toNat = z3.length - 1 by omega]; exact hi))) ?_
 refine xo rfl (fun _ => kl1 rfl one3 rfl) (xo rfl (fun _ => ok_indexAddr rfl Tryz.underlying47 sz29 (vl rfl) (vl rfl) (by omega) (row_atI (f := rowChg) hc)) (xo rfl (fun _ => ok_loadA rfl agg29 sz29 (vl rfl) rfl rfl) ?_))
 refine xo rfl (fun _ => ok_call rfl (eapl_of hap hyz (by omega) (hzc c (List.mem_of_getElem? hc))) ⟨ke rfl, ke rfl, trivial⟩) ?_
 refine xm rfl (xo rfl (fun _ => ok_extract rfl (vl rfl) rfl) (xo rfl (fun _ => ok_extract rfl (vl rfl) rfl) (Cx.ef 0 rfl rfl (by decide) (ef_allocX rfl rfl (by decide) rfl z41 zo41) (Cx.ef0 0 rfl rfl (ef_storeX rfl rfl rfl rfl (VL.le (vl rfl) (agg_cellsP _)) sz41 rfl rfl) (xm rfl ?_)))))
 refine Cx.nil ⟨rfl, ?_⟩
 refine FinX.open_ 0 13 rfl rfl (fun v3 => ?_)
 refine FinX.done (AllC.cons (AllC.cons (AllC.cons (AllC.map _)))) (Fin.opn 13 0 _ rfl rfl (fun _ => rfl) (fun b6 => ?_))
 refine Fin.go (Tr.drop 1 (wk4 9 10 13 14 rfl (Tr.seq (Tr.reg0 (cm rfl (cm rfl (co rfl (ki rfl rfl rfl rfl) (cm rfl ?_))))))))
 refine Ch.cs 93 rfl ?_ ?_ <;> intro h7 q7
 refine cy h7 rfl (ok_loadA rfl agg41 sz41 (vl rfl) rfl rfl) (cy h7 rfl (ok_rd 0 rfl (rd_loadA rfl agg41 sz41 (vl rfl) rfl rfl)) ?_)
 refine cy h7 rfl (ok_call rfl (w_R25Same (a := x) (b := x) hxb.le_ hxb.lg_ hxb.li_ hxb.lk_) ⟨ke rfl, ke rfl, trivial⟩) ?_
 refine co rfl (kpt rfl rfl h7 rfl) (cm rfl ?_)
 refine Ch.cs 98 rfl ?_ ?_ <;> intro h8 q8
 refine cy h8 rfl (ok_call rfl (w_awake25) trivial) (co rfl (kpt rfl rfl h8 rfl) (cm rfl (Ch.nil (Fin.go (Tr.drop 0 (wk1 2 rfl (Tr.ret (Fin.ret1 rfl (OutW.bse _ _) rfl ?_))))))))
 · exact Pr.le_refl _
 exfalso; simp_all
 exfalso; simp_all
theorem estateSteps_lifted (os : Os) (started : os.Started) (H : Type) (enc : TypeId × Value → H) :
    ReturnsInHanded {} Tryz.checked os 4 .any (Rows.estateStepsSpec.pre6 enc Tryz.prog Tryz.f4 Rows.estateStepsRow.domain false) (Rows.estateStepsSpec.post enc Tryz.prog Tryz.f4 false true false false) := by
  refine returnsInHanded_of_change (C := Tryz.checked) own0 started (by kernel_rfl) Tryz.func4
    (ChangeSpec.witness6 (enc := enc) (C := Tryz.checked) false ⟨#[], #[.slice none 0 0], []⟩ 8 (by kernel_rfl) (by kernel_rfl) (by kernel_rfl) (by kernel_rfl)) ?_
  intro W base args ds gs before hval0 hW hcnd _
  have hval : ∀ (j : Nat) t v, Tryz.f4.params[j]? = some t → args[j]? = some v → Value.okWide Tryz.prog W .any base t v := hval0
  have hW' := hW
  obtain ⟨p, q, hA0, hV, hpq, hfz, hnd⟩ := hW
  have hA : DataW.TrodAll enc Tryz.prog W 0 (fun _ => true) true Tryz.f4.params.toList args.toList ds p := hA0
  have hA' := hA
  rw [Tryz.params4] at hA hval
  obtain ⟨v0, d0, rfl, rfl, h0⟩ := trodAll_one hA
  obtain ⟨rfl, rfl⟩ := trodVars_none hV
  obtain ⟨a0, hr0, e0⟩ := arg_one (opens_ints Tryz.underlying22 Tryz.underlying3 (by kernel_rfl)) h0 (by obtain ⟨_, _, _, rfl⟩ := okWide_slice Tryz.underlying22 (hval 0 22 v0 rfl rfl); rfl)
  refine ((w_EstateSteps).2 noM W [v0] (noM_bd W) ⟨e0, trivial⟩).mono fun e W' ⟨v, he, hv, hb⟩ => ?_
  subst he
  obtain rfl : v = .bool true := hv
  exact ⟨_, rfl, law_post laidOut0 (by kernel_rfl) rfl Tryz.underlying4 rfl hA' (by rw [hpq]; simp) hW' rfl hb⟩
theorem estateSteps_fact_a : (Rows.estateStepsRow.inPlace == Tryz.pinned.checked.prog.inPlace 4) = true := by kernel_rfl
theorem estateSteps_fact_b : (Rows.estateStepsRow.unfollowed == Tryz.pinned.checked.prog.unfollowed 4) = true := by kernel_rfl
theorem estateSteps_fact_c : (Rows.estateStepsRow.recurses == Tryz.pinned.checked.prog.recurses 4) = true := by kernel_rfl
theorem estateSteps_fact_d : (Rows.estateStepsRow.named == Tryz.pinned.checked.prog.varsNamed 4) = true := by kernel_rfl
theorem estateSteps_facts : joinedFacts Tryz.pinned.checked.prog 4 Tryz.f4 Rows.estateStepsSpec Rows.estateStepsRow = true := by
  unfold joinedFacts
  rw [estateSteps_fact_a, estateSteps_fact_b, estateSteps_fact_c, estateSteps_fact_d]
  kernel_rfl
theorem estateSteps_holds : Rows.EstateStepsSaid :=
  OpenClaim.holds_of_wide 4 Tryz.f4 rfl rfl rfl rfl rfl rfl rfl ⟨rfl, rfl, rfl, rfl, rfl⟩ rfl rfl rfl rfl rfl (by kernel_rfl) Tryz.func4 estateSteps_facts
    (of_decide_eq_true (by kernel_rfl)) (by unfold Func.isWrapper; first | (rw [if_pos (by decide +kernel)]; kernel_rfl) | (rw [if_neg (by decide +kernel)]; exact ⟨rfl, rfl⟩))
    (fun os started H enc _ => estateSteps_lifted os started H enc)
end Go.Proofs.YtppeeogffbpcbaaGreat
