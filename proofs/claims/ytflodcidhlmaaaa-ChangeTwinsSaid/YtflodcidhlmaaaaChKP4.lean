/-
  The law of the twins.
-/
import Derived.Test.YtflodcidhlmaaaaRows
import Derived.Test.YtflodcidhlmaaaaChKP3
set_option linter.all false
namespace Go.Proofs.Ytflodcidhlmaaaa
open Go Go.RowKit Cp
set_option maxRecDepth 20000 in
theorem w_ChCheck {e e2 : Ept} {c b : Chg} {err : Int} (hd : Fun Try.prog 38 [agg (rowEp e), agg (rowChg c)] (tup [agg (rowEp e2), agg (rowChg b), int err])) : Fun Try.prog 19 [agg (rowEp e), agg (rowChg c)] (int err) := by
 refine Fun.of Try.func19 rfl rfl (by exact Nat.le_of_ble_eq_true rfl) fun M0 w0 => ?_
 refine Tr.seq (Tr.reg0 (co rfl (ok_box rfl (VL.le (vl rfl) (agg_cellsP _))) (co rfl (ok_box rfl (VL.le (vl rfl) (agg_cellsP _))) (cm rfl (Ch.nil (Fin.go (Tr.seq (Tr.regT (tp rfl (ok_loadA rfl agg35 sz35 (vl rfl) rfl rfl) (tp rfl (ok_loadA rfl agg58 sz58 (vl rfl) rfl rfl) (tp rfl (ok_call rfl (hd) ⟨ke rfl, ke rfl, trivial⟩) (tm rfl (tp rfl (ok_extract rfl (vl rfl) rfl) ?_)))))))))))))
 refine tp rfl (ok_extract rfl (vl rfl) rfl) (tp rfl (ok_extract rfl (vl rfl) rfl) ?_)
 refine TO.alloc rfl rfl (by decide) rfl z35 zo35 (fun b1 => ?_)
 refine TO.alloc rfl rfl (by decide) rfl z58 zo58 (fun b2 => ?_)
 refine TO.store_all 1 rfl rfl rfl (vl rfl) (VL.le (vl rfl) (agg_cellsP _)) rfl sz35 rfl rfl (TO.freeze 1 5 rfl rfl (TO.store_all 0 rfl rfl rfl (vl rfl) (VL.le (vl rfl) (agg_cellsP _)) rfl sz58 rfl rfl (TO.freeze 0 6 rfl rfl (tm rfl (TO.nil (Fin.go (wk1 7 rfl (Tr.seq (Tr.reg0 (cm rfl (cm rfl (Ch.nil (Fin.go (Tr.ret ?_))))))))))))))
 refine Fin.ret1 rfl (OutW.bse _ _) rfl ?_
 · exact Pr.le_refl _
set_option maxRecDepth 20000 in
theorem w_ChApply {e e2 : Ept} {c b : Chg} {err : Int} (hd : Fun Try.prog 38 [agg (rowEp e), agg (rowChg c)] (tup [agg (rowEp e2), agg (rowChg b), int err])) : Fun Try.prog 20 [agg (rowEp e), agg (rowChg c)] (tup [agg (rowEp e2), int err]) := by
 refine Fun.of Try.func20 rfl rfl (by exact Nat.le_of_ble_eq_true rfl) fun M0 w0 => ?_
 refine Tr.seq (Tr.regT (tp rfl (ok_box rfl (VL.le (vl rfl) (agg_cellsP _))) (tp rfl (ok_box rfl (VL.le (vl rfl) (agg_cellsP _))) ?_)))
 refine TO.alloc rfl rfl (by decide) rfl z35 zo35 (fun b1 => ?_)
 refine tm rfl (TO.nil (Fin.go (Tr.seq (Tr.regT (tp rfl (ok_loadA rfl agg35 sz35 (vl rfl) rfl rfl) (tp rfl (ok_loadA rfl agg58 sz58 (vl rfl) rfl rfl) (tp rfl (ok_call rfl (hd) ⟨ke rfl, ke rfl, trivial⟩) (tm rfl (tp rfl (ok_extract rfl (vl rfl) rfl) (tp rfl (ok_extract rfl (vl rfl) rfl) (tp rfl (ok_extract rfl (vl rfl) rfl) ?_)))))))))))
 refine TO.alloc rfl rfl (by decide) rfl z35 zo35 (fun b2 => ?_)
 refine TO.alloc rfl rfl (by decide) rfl z58 zo58 (fun b3 => ?_)
 refine TO.store_all 1 rfl rfl rfl (vl rfl) (VL.le (vl rfl) (agg_cellsP _)) rfl sz35 rfl rfl (TO.freeze 1 6 rfl rfl (TO.store_all 0 rfl rfl rfl (vl rfl) (VL.le (vl rfl) (agg_cellsP _)) rfl sz58 rfl rfl (TO.freeze 0 7 rfl rfl (tm rfl (TO.nil (Fin.go (wk3 4 6 8 rfl (Tr.seq (Tr.regT (tp rfl (ok_loadA rfl agg35 sz35 (vl rfl) rfl rfl) (tm rfl (TO.store_all 0 rfl rfl rfl (vl rfl) (VL.le (vl rfl) (agg_cellsP _)) rfl sz35 rfl rfl (tm rfl ?_)))))))))))))
 refine TO.nil (Fin.go (Tr.ret (Fin.retX2 rfl (RVal.cell 0 rfl rfl agg35 sz35 rfl (Pr.le_refl _)) (RVal.tmp rfl (Pr.le_refl _)) ?_)))
 refine tup_le ⟨?_, ?_, trivial⟩
 · exact Pr.le_refl _
 · exact Pr.le_refl _
set_option maxRecDepth 20000 in
theorem w_ChInverse {e e2 : Ept} {c b : Chg} {err : Int} (hd : Fun Try.prog 38 [agg (rowEp e), agg (rowChg c)] (tup [agg (rowEp e2), agg (rowChg b), int err])) : Fun Try.prog 39 [agg (rowEp e), agg (rowChg c)] (tup [agg (rowChg b), int err]) := by
 refine Fun.of Try.func39 rfl rfl (by exact Nat.le_of_ble_eq_true rfl) fun M0 w0 => ?_
 refine Tr.seq (Tr.regT (tp rfl (ok_box rfl (VL.le (vl rfl) (agg_cellsP _))) (tp rfl (ok_box rfl (VL.le (vl rfl) (agg_cellsP _))) ?_)))
 refine TO.alloc rfl rfl (by decide) rfl z58 zo58 (fun b1 => ?_)
 refine tm rfl (TO.nil (Fin.go (Tr.seq (Tr.regT (tp rfl (ok_loadA rfl agg35 sz35 (vl rfl) rfl rfl) (tp rfl (ok_loadA rfl agg58 sz58 (vl rfl) rfl rfl) (tp rfl (ok_call rfl (hd) ⟨ke rfl, ke rfl, trivial⟩) (tm rfl (tp rfl (ok_extract rfl (vl rfl) rfl) (tp rfl (ok_extract rfl (vl rfl) rfl) (tp rfl (ok_extract rfl (vl rfl) rfl) ?_)))))))))))
 refine TO.alloc rfl rfl (by decide) rfl z35 zo35 (fun b2 => ?_)
 refine TO.alloc rfl rfl (by decide) rfl z58 zo58 (fun b3 => ?_)
 refine TO.store_all 1 rfl rfl rfl (vl rfl) (VL.le (vl rfl) (agg_cellsP _)) rfl sz35 rfl rfl (TO.freeze 1 6 rfl rfl (TO.store_all 0 rfl rfl rfl (vl rfl) (VL.le (vl rfl) (agg_cellsP _)) rfl sz58 rfl rfl (TO.freeze 0 7 rfl rfl (tm rfl (TO.nil (Fin.go (wk3 4 7 8 rfl (Tr.seq (Tr.regT (tp rfl (ok_loadA rfl agg58 sz58 (vl rfl) rfl rfl) (tm rfl (TO.store_all 0 rfl rfl rfl (vl rfl) (VL.le (vl rfl) (agg_cellsP _)) rfl sz58 rfl rfl (tm rfl ?_)))))))))))))
 refine TO.nil (Fin.go (Tr.ret (Fin.retX2 rfl (RVal.cell 0 rfl rfl agg58 sz58 rfl (Pr.le_refl _)) (RVal.tmp rfl (Pr.le_refl _)) ?_)))
 refine tup_le ⟨?_, ?_, trivial⟩
 · exact Pr.le_refl _
 · exact Pr.le_refl _
theorem word_app : wordB [97, 112, 112] = true := by decide
theorem idB_nil {a b k : Int} (h : ofB a b 2 = true) (hk : keyB k = true) : idB ⟨a, b, k, []⟩ = true := by unfold idB showsB; simp [h, hk]
theorem of_rsa : ofB 5 2048 2 = true := by decide +kernel
theorem of_ec : ofB 7 256 2 = true := by decide +kernel
theorem suites1 : suitesB [10] = true := by decide
theorem suites2 : suitesB [10, 8] = true := by decide
theorem asc0 : ascB [] = true := rfl
theorem key_in {n : Int} (h : 0 ≤ n ∧ n < 2000) : keyB n = true := by unfold keyB; simp; omega
theorem ept_ok {s : List Int} {l : List Idn} (hs : suitesB s = true) (hl : l.length ≤ 4) (h : l.all idB = true) : eptB ⟨[97, 112, 112], 1, 3, s, false, l, [], [], false⟩ = true := by
  unfold eptB; simp only [word_app, hs, asc0, h]; simp; omega
theorem ept_fits {s : List Int} {l : List Idn} (h : ∀ x ∈ l, x.chain = []) : Ept.fits ⟨[97, 112, 112], 1, 3, s, false, l, [], [], false⟩ := ⟨by show 3 ≤ maxLen; unfold maxLen; omega, fun x hx c hc => by rw [h x hx] at hc; cases hc⟩
theorem ept_small {s : List Int} {l : List Idn} (hs : s.length ≤ 4) (hl : l.length ≤ 4) (h : ∀ x ∈ l, x.chain = []) : Ept.small ⟨[97, 112, 112], 1, 3, s, false, l, [], [], false⟩ :=
  ⟨by show s.length ≤ _; omega, by show 0 ≤ _; omega, by show 0 ≤ _; omega, by show l.length ≤ _; omega, fun x hx => ⟨by rw [h x hx]; show 0 ≤ _; omega, fun c hc => by rw [h x hx] at hc; cases hc⟩⟩
theorem id_small {a b k : Int} : Idn.small ⟨a, b, k, []⟩ := ⟨by show 0 ≤ _; omega, fun c hc => by cases hc⟩
abbrev twin (n : Int) : List Idn := [⟨5, 2048, n, []⟩, ⟨7, 256, n, []⟩, ⟨5, 2048, n + 1, []⟩]
abbrev eT (n : Int) : Ept := ⟨[97, 112, 112], 1, 3, [10], false, twin n, [], [], false⟩
abbrev chgN (k n : Int) : Chg := ⟨0, k, n, 0, zeroId⟩
theorem twin_ok {n : Int} (h : 0 ≤ n ∧ n < 1000) : eptB (eT n) = true := ept_ok suites1 (by simp) (by simp [idB_nil of_rsa (key_in (n := n) (by omega)), idB_nil of_ec (key_in (n := n) (by omega)), idB_nil of_rsa (key_in (n := n + 1) (by omega))])
theorem twin_nil {n : Int} : ∀ x ∈ twin n, x.chain = [] := by intro x hx; simp at hx; rcases hx with rfl | rfl | rfl <;> rfl
theorem twin_k0 (n : Int) : keyIdx n (twin n) = 0 := by unfold keyIdx idx; simp [List.findIdx?_cons]
theorem twin_k2 (n : Int) : keyIdx (n + 1) (twin n) = 2 := by
  unfold keyIdx idx
  have h : (n == n + 1) = false := by simp; omega
  simp [List.findIdx?_cons, h]
/-- One with the number of two goes not. -/
theorem done_twice {n : Int} (h : 0 ≤ n ∧ n < 1000) : Fun Try.prog 38 [agg (rowEp (eT n)), agg (rowChg (chgN 6 n))] (tup [agg (rowEp zeroEp), agg (rowChg zeroChg), int 5]) := by
  refine w_donenE (e2 := zeroEp) (b := zeroChg) (fk := 83) (err := 5) (ept_fits twin_nil) (ept_small (by simp) (by simp) twin_nil) (twin_ok h) ⟨by show (1 : Int) ≤ 6; omega, by show (6 : Int) ≤ 12; omega⟩ rfl rfl (by decide) (fun wb ob v => ?_)
  have h0 := twin_k0 n
  refine w_dropIdnT (e := eT n) (c := chgN 6 n) (x := ⟨5, 2048, n, []⟩) ?_ ?_ ?_ (by simp)
  · show 0 ≤ keyIdx n (twin n); omega
  · show (twin n)[(keyIdx n (twin n)).toNat]? = _; rw [h0]; rfl
  · show ((twin n).drop (keyIdx n (twin n) + 1).toNat).any _ = true; rw [h0]; simp
/-- None is added with a number that is there. -/
theorem done_there {n : Int} (h : 0 ≤ n ∧ n < 1000) : Fun Try.prog 38 [agg (rowEp (eT n)), agg (rowChg ⟨0, 5, 0, 0, ⟨5, 2048, n, []⟩⟩)] (tup [agg (rowEp zeroEp), agg (rowChg zeroChg), int 41]) := by
  refine w_donenE (e2 := zeroEp) (b := zeroChg) (fk := 82) (err := 41) (ept_fits twin_nil) (ept_small (by simp) (by simp) twin_nil) (twin_ok h) ⟨by show (1 : Int) ≤ 5; omega, by show (5 : Int) ≤ 12; omega⟩ rfl rfl (by decide) (fun wb ob v => ?_)
  have h0 := twin_k0 n
  refine w_addIdnT (e := eT n) (c := ⟨0, 5, 0, 0, ⟨5, 2048, n, []⟩⟩) id_small (by simp) (by simp) ?_
  show 0 ≤ keyIdx n (twin n); omega
abbrev eT2 (n : Int) : Ept := ⟨[97, 112, 112], 1, 3, [10], false, [⟨5, 2048, n, []⟩, ⟨7, 256, n, []⟩], [], [], false⟩
theorem twin2_nil {n : Int} : ∀ x ∈ (eT2 n).ids, x.chain = [] := by intro x hx; simp at hx; rcases hx with rfl | rfl <;> rfl
/-- Another one goes. -/
theorem done_goes {n : Int} (h : 0 ≤ n ∧ n < 1000) : Fun Try.prog 38 [agg (rowEp (eT n)), agg (rowChg (chgN 6 (n + 1)))] (tup [agg (rowEp (eT2 n)), agg (rowChg ⟨0, 5, 0, 2, ⟨5, 2048, n + 1, []⟩⟩), int 0]) := by
  refine w_donenY (e2 := eT2 n) (b := ⟨0, 5, 0, 2, ⟨5, 2048, n + 1, []⟩⟩) (fk := 83) (err := 0) (ept_fits twin_nil) (ept_small (by simp) (by simp) twin_nil) (twin_ok h) ⟨by show (1 : Int) ≤ 6; omega, by show (6 : Int) ≤ 12; omega⟩ rfl rfl id_small (ept_fits twin2_nil) (ept_ok suites1 (by simp) (by simp [idB_nil of_rsa (key_in (n := n) (by omega)), idB_nil of_ec (key_in (n := n) (by omega))])) (fun wb ob v => ?_)
  have h0 := twin_k2 n
  have := w_dropIdnY (e := eT n) (c := chgN 6 (n + 1)) (b := back0 (chgN 6 (n + 1))) (wb := wb) (ob := ob) (v := v) (x := ⟨5, 2048, n + 1, []⟩) (by show 0 ≤ keyIdx (n + 1) (twin n); omega) (by show (twin n)[(keyIdx (n + 1) (twin n)).toNat]? = _; rw [h0]; rfl) (by show ((twin n).drop (keyIdx (n + 1) (twin n) + 1).toNat).any _ = false; rw [h0]; rfl) (by simp)
  have e1 : keyIdx (chgN 6 (n + 1)).number (eT n).ids = 2 := h0
  rw [e1] at this
  exact this
abbrev eA (s : List Int) : Ept := ⟨[97, 112, 112], 1, 3, s, false, [], [], [], false⟩
theorem done_awake : Fun Try.prog 38 [agg (rowEp (eA [10, 8])), agg (rowChg (chgN 2 8))] (tup [agg (rowEp (eA [10])), agg (rowChg ⟨0, 1, 8, 1, zeroId⟩), int 0]) := by
  have hn : ∀ x ∈ ([] : List Idn), x.chain = [] := fun x hx => by cases hx
  refine w_donesY (e2 := eA [10]) (b := ⟨0, 1, 8, 1, zeroId⟩) (fk := 79) (err := 0) (ept_fits hn) (ept_small (by simp) (by simp) hn) (ept_ok suites2 (by simp) rfl) (by decide) (by decide) rfl id_small (ept_fits hn) (ept_ok suites1 (by simp) rfl) (fun wb ob v => ?_)
  exact w_dropSuiteY (e := eA [10, 8]) (c := chgN 2 8) (b := back0 (chgN 2 8)) (wb := wb) (ob := ob) (v := v) (p5 := idns []) (p6 := ints []) (p7 := ints []) (by decide) (by simp)

end Go.Proofs.Ytflodcidhlmaaaa
namespace Go.Proofs.Ytflodcidhlmaaaa
open Go Go.RowKit Cp Go.ChangeShapes Go.WideShapes Go.ChangeAt
set_option maxRecDepth 20000 in
theorem w_RSA   : Fun Try.prog 17 [] (agg [int 5, int 2048]) := by
 refine Fun.of Try.func17 rfl rfl (by exact Nat.le_of_ble_eq_true rfl) fun M0 w0 => ?_
 refine Tr.seq (Tr.regT ?_)
 refine TO.alloc rfl rfl (by decide) rfl z51 zo51 (fun b1 => ?_)
 refine TO.nil (Fin.go (Tr.seq (Tr.regT (tp rfl (ok_build (rows := [(0, [_]), (1, [_])]) rfl bl51 zo51 ⟨⟨rfl, (VL.le (vl rfl) (one_cellsP _))⟩, ⟨⟨rfl, (VL.le (vl rfl) (one_cellsP _))⟩, trivial⟩⟩ rfl) (TO.store_all 0 rfl rfl rfl (vl rfl) (VL.le (vl rfl) (agg_cellsP _)) rfl sz51 rfl rfl (TO.nil (Fin.go (Tr.ret (Fin.retX1 rfl (RVal.cell 0 rfl rfl agg51 sz51 rfl (Pr.le_refl _)) ?_)))))))))
 · exact Pr.le_refl _
set_option maxRecDepth 20000 in
theorem w_EC   : Fun Try.prog 18 [] (agg [int 7, int 256]) := by
 refine Fun.of Try.func18 rfl rfl (by exact Nat.le_of_ble_eq_true rfl) fun M0 w0 => ?_
 refine Tr.seq (Tr.regT ?_)
 refine TO.alloc rfl rfl (by decide) rfl z51 zo51 (fun b1 => ?_)
 refine TO.nil (Fin.go (Tr.seq (Tr.regT (tp rfl (ok_build (rows := [(0, [_]), (1, [_])]) rfl bl51 zo51 ⟨⟨rfl, (VL.le (vl rfl) (one_cellsP _))⟩, ⟨⟨rfl, (VL.le (vl rfl) (one_cellsP _))⟩, trivial⟩⟩ rfl) (TO.store_all 0 rfl rfl rfl (vl rfl) (VL.le (vl rfl) (agg_cellsP _)) rfl sz51 rfl rfl (TO.nil (Fin.go (Tr.ret (Fin.retX1 rfl (RVal.cell 0 rfl rfl agg51 sz51 rfl (Pr.le_refl _)) ?_)))))))))
 · exact Pr.le_refl _
set_option maxRecDepth 20000 in
theorem w_awake24   : Fun Try.prog 21 [] (bool true) := by
 refine Fun.of Try.func21 rfl rfl (by exact Nat.le_of_ble_eq_true rfl) fun M0 w0 => ?_
 refine Tr.seq (Tr.reg0 (cm rfl (Ch.nil (Fin.go (Tr.seq (Tr.regT (tp rfl (ok_buildSlice (xs := [.const (.int .i64 (10)), .const (.int .i64 (8))]) (rows := [[_], [_]]) rfl rfl Try.underlying22 sz3 z3 rfl (by decide) ⟨⟨(by exact rfl), (VL.le (vl rfl) (one_cellsP _))⟩, ⟨⟨(by exact rfl), (VL.le (vl rfl) (one_cellsP _))⟩, trivial⟩⟩ (by decide)) ?_)))))))
 refine tp rfl (ok_build (rows := [(0, [_]), (1, [_]), (2, [_]), (3, [_])]) rfl bl35 zo35 ⟨⟨rfl, (VL.le (vl rfl) (one_cellsP _))⟩, ⟨⟨rfl, (VL.le (vl rfl) (one_cellsP _))⟩, ⟨⟨rfl, (VL.le (vl rfl) (one_cellsP _))⟩, ⟨⟨rfl, ⟨_, rfl, Pr.le_trans (full_le _ _) (one_cellsP _)⟩⟩, trivial⟩⟩⟩⟩ rfl) ?_
 refine TO.alloc rfl rfl (by decide) rfl z35 zo35 (fun b1 => ?_)
 refine TO.store_all 0 rfl rfl rfl (vl rfl) (VL.le (vl rfl) (agg_cellsP _)) rfl sz35 rfl rfl (TO.freeze 0 1 rfl rfl (TO.nil (Fin.go (Tr.seq (Tr.regT (tp rfl (ok_build (rows := [(1, [_]), (2, [_])]) rfl bl58 zo58 ⟨⟨rfl, (VL.le (vl rfl) (one_cellsP _))⟩, ⟨⟨rfl, (VL.le (vl rfl) (one_cellsP _))⟩, trivial⟩⟩ rfl) ?_))))))
 refine TO.alloc rfl rfl (by decide) rfl z58 zo58 (fun b2 => ?_)
 refine TO.store_all 0 rfl rfl rfl (vl rfl) (VL.le (vl rfl) (agg_cellsP _)) rfl sz58 rfl rfl (TO.freeze 0 2 rfl rfl (TO.nil (Fin.go (Tr.seq (Tr.regT (tp rfl (ok_loadA rfl agg35 sz35 (vl rfl) rfl rfl) (tp rfl (ok_loadA rfl agg58 sz58 (vl rfl) rfl rfl) ?_)))))))
 refine tp rfl (ok_call rfl (w_ChApply (e := eA [10, 8]) (c := chgN 2 8) done_awake) ⟨⟨_, rfl, agg_le ⟨Pr.le_refl _, Pr.le_refl _, Pr.le_refl _, Pr.le_refl _, Pr.le_refl _, nil_slice 4, nil_slice 1, nil_slice 1, Pr.le_refl _, trivial⟩⟩, ⟨_, rfl, agg_le ⟨Pr.le_refl _, Pr.le_refl _, Pr.le_refl _, Pr.le_refl _, Pr.le_refl _, Pr.le_refl _, Pr.le_refl _, nil_slice 15, trivial⟩⟩, trivial⟩) ?_
 refine tm rfl (tp rfl (ok_extract rfl (vl rfl) rfl) (tp rfl (ok_extract rfl (vl rfl) rfl) ?_))
 refine TO.alloc rfl rfl (by decide) rfl z35 zo35 (fun b3 => ?_)
 refine TO.store_all 0 rfl rfl rfl (vl rfl) (VL.le (vl rfl) (agg_cellsP _)) rfl sz35 rfl rfl (TO.freeze 0 3 rfl rfl (tm rfl (TO.nil (Fin.go (wk4 1 2 3 4 rfl (Tr.seq (Tr.regT (tp rfl (ok_loadA rfl agg35 sz35 (vl rfl) rfl rfl) (tp rfl (ok_loadA rfl agg58 sz58 (vl rfl) rfl rfl) ?_)))))))))
 refine tp rfl (ok_call rfl (w_ChInverse (e := eA [10, 8]) (c := chgN 2 8) done_awake) ⟨⟨_, rfl, agg_le ⟨Pr.le_refl _, Pr.le_refl _, Pr.le_refl _, Pr.le_refl _, Pr.le_refl _, nil_slice 4, nil_slice 1, nil_slice 1, Pr.le_refl _, trivial⟩⟩, ⟨_, rfl, agg_le ⟨Pr.le_refl _, Pr.le_refl _, Pr.le_refl _, Pr.le_refl _, Pr.le_refl _, Pr.le_refl _, Pr.le_refl _, nil_slice 15, trivial⟩⟩, trivial⟩) ?_
 refine tm rfl (tp rfl (ok_extract rfl (vl rfl) rfl) (tp rfl (ok_extract rfl (vl rfl) rfl) ?_))
 refine TO.alloc rfl rfl (by decide) rfl z58 zo58 (fun b4 => ?_)
 refine TO.store_all 0 rfl rfl rfl (vl rfl) (VL.le (vl rfl) (agg_cellsP _)) rfl sz58 rfl rfl (TO.freeze 0 5 rfl rfl (tm rfl (TO.nil (Fin.go (wk4 3 4 5 6 rfl (Tr.seq (Tr.reg0 (cm rfl (co rfl (ki rfl rfl rfl rfl) (cm rfl ?_))))))))))
 refine Ch.cs 24 rfl ?_ ?_ <;> intro h1 q1
 refine cym h1 rfl (cy h1 rfl (ki rfl rfl rfl rfl) (co rfl (kpt rfl rfl h1 rfl) (cm rfl ?_)))
 refine Ch.cs 28 rfl ?_ ?_ <;> intro h2 q2
 refine cy h2 rfl (kfa rfl fo35_3 rfl rfl) (cy h2 rfl (kl1 rfl one22 rfl) (cy h2 rfl (ok_lenm rfl Try.underlying22 (vl rfl)) (cy h2 rfl (ki rfl rfl rfl rfl) (co rfl (kpt rfl rfl h2 rfl) (cm rfl ?_)))))
 refine Ch.cs 34 rfl ?_ ?_ <;> intro h3 q3
 refine cy h3 rfl (kfa rfl fo58_1 rfl rfl) (cy h3 rfl (kl1 rfl one3 rfl) (cy h3 rfl (ki rfl rfl rfl rfl) (co rfl (kpt rfl rfl h3 rfl) (cm rfl ?_))))
 refine Ch.cs 39 rfl ?_ ?_ <;> intro h4 q4
 refine cy h4 rfl (kfa rfl fo58_3 rfl rfl) (cy h4 rfl (kl1 rfl one3 rfl) (cy h4 rfl (ki rfl rfl rfl rfl) (co rfl (kpt rfl rfl h4 rfl) (cm rfl ?_))))
 refine Ch.cs 44 rfl ?_ ?_ <;> intro h5 q5
 refine cy h5 rfl (kfa rfl fo58_2 rfl rfl) (cy h5 rfl (kl1 rfl one3 rfl) (cy h5 rfl (ki rfl rfl rfl rfl) (co rfl (kpt rfl rfl h5 rfl) (cm rfl (Ch.nil (Fin.go (wk1 0 rfl (Tr.ret (Fin.ret1 rfl (OutW.bse _ _) rfl ?_)))))))))
 · exact Pr.le_refl _
 exact absurd h5 (by decide)
 exact absurd h4 (by decide)
 exact absurd h3 (by decide)
 exact absurd h2 (by decide)
 exact absurd h1 (by decide)
set_option maxRecDepth 20000 in
theorem w_ChangeTwins {id_ : Int}  : Fun Try.prog 5 [int id_] (bool true) := by
 refine Fun.of Try.func5 rfl rfl (by exact Nat.le_of_ble_eq_true rfl) fun M0 w0 => ?_
 have hn : 0 ≤ id_ % 1000 ∧ id_ % 1000 < 1000 := by omega
 refine Tr.seq (Tr.reg0 (cm rfl (Ch.nil (Fin.go (Tr.seq (Tr.reg0 (cm rfl (co rfl (ok_call rfl (w_Mod (by omega) (by omega)) ⟨ke rfl, ke rfl, trivial⟩) (cm rfl (Ch.nil (Fin.go (Tr.seq (Tr.regT ?_)))))))))))))
 refine tp rfl (ok_buildSlice (xs := [.const (.int .i64 (10))]) (rows := [[_]]) rfl rfl Try.underlying22 sz3 z3 rfl (by decide) ⟨⟨(by exact rfl), (VL.le (vl rfl) (one_cellsP _))⟩, trivial⟩ (by decide)) ?_
 refine tp rfl (ok_call rfl (w_RSA) trivial) (tm rfl (tp rfl (ok_build (rows := [(0, _), (1, [_])]) rfl bl55 zo55 ⟨⟨rfl, (VL.le (vl rfl) (agg_cellsP _))⟩, ⟨⟨rfl, (VL.le (vl rfl) (one_cellsP _))⟩, trivial⟩⟩ rfl) (tp rfl (ok_call rfl (w_EC) trivial) (tm rfl (tp rfl (ok_build (rows := [(0, _), (1, [_])]) rfl bl55 zo55 ⟨⟨rfl, (VL.le (vl rfl) (agg_cellsP _))⟩, ⟨⟨rfl, (VL.le (vl rfl) (one_cellsP _))⟩, trivial⟩⟩ rfl) (tp rfl (ok_call rfl (w_RSA) trivial) (tm rfl ?_)))))))
 refine tp rfl (ok_add rfl (vl rfl) (vl rfl) ?hin) ?_; case hin => unfold InI; omega
 refine tp rfl (ok_build (rows := [(0, _), (1, [_])]) rfl bl55 zo55 ⟨⟨rfl, (VL.le (vl rfl) (agg_cellsP _))⟩, ⟨⟨rfl, (VL.le (vl rfl) (one_cellsP _))⟩, trivial⟩⟩ rfl) (tp rfl (ok_buildSlice (xs := [.tmp 14, .tmp 17, .tmp 21]) (rows := [rowId ⟨5, 2048, id_ % 1000, []⟩, rowId ⟨7, 256, id_ % 1000, []⟩, rowId ⟨5, 2048, id_ % 1000 + 1, []⟩]) rfl rfl Try.underlying33 sz55 z55 rfl (by decide) ⟨⟨(by exact rfl), VL.le (vl rfl) (Pr.le_trans (agg_le (qs := rowId ⟨5, 2048, id_ % 1000, []⟩) ⟨Pr.le_refl _, Pr.le_refl _, Pr.le_refl _, nil_slice 15, trivial⟩) (agg_cellsP _))⟩, ⟨⟨(by exact rfl), VL.le (vl rfl) (Pr.le_trans (agg_le (qs := rowId ⟨7, 256, id_ % 1000, []⟩) ⟨Pr.le_refl _, Pr.le_refl _, Pr.le_refl _, nil_slice 15, trivial⟩) (agg_cellsP _))⟩, ⟨⟨(by exact rfl), VL.le (vl rfl) (Pr.le_trans (agg_le (qs := rowId ⟨5, 2048, id_ % 1000 + 1, []⟩) ⟨Pr.le_refl _, Pr.le_refl _, Pr.le_refl _, nil_slice 15, trivial⟩) (agg_cellsP _))⟩, trivial⟩⟩⟩ (by decide)) ?_)
 refine tp rfl (ok_build (rows := [(0, [_]), (1, [_]), (2, [_]), (3, [_]), (5, [_])]) rfl bl35 zo35 ⟨⟨rfl, (VL.le (vl rfl) (one_cellsP _))⟩, ⟨⟨rfl, (VL.le (vl rfl) (one_cellsP _))⟩, ⟨⟨rfl, (VL.le (vl rfl) (one_cellsP _))⟩, ⟨⟨rfl, ⟨_, rfl, Pr.le_trans (full_le _ _) (one_cellsP _)⟩⟩, ⟨⟨rfl, ⟨_, rfl, Pr.le_trans (full_le _ _) (one_cellsP _)⟩⟩, trivial⟩⟩⟩⟩⟩ rfl) ?_
 refine TO.alloc rfl rfl (by decide) rfl z35 zo35 (fun b1 => ?_)
 refine TO.store_all 0 rfl rfl rfl (vl rfl) (VL.le (vl rfl) (agg_cellsP _)) rfl sz35 rfl rfl (TO.freeze 0 4 rfl rfl (TO.nil (Fin.go (wk2 3 4 rfl (Tr.seq (Tr.reg0 (co rfl (ok_loadA rfl agg35 sz35 (vl rfl) rfl rfl) (cm rfl (co rfl (ok_build (rows := [(1, [_]), (2, [_])]) rfl bl58 zo58 ⟨⟨rfl, (VL.le (vl rfl) (one_cellsP _))⟩, ⟨⟨rfl, (VL.le (vl rfl) (one_cellsP _))⟩, trivial⟩⟩ rfl) ?_)))))))))
 refine co rfl (ok_call rfl (w_ChCheck (e := eT (id_ % 1000)) (c := chgN 6 (id_ % 1000)) (done_twice hn)) ⟨⟨_, rfl, agg_le ⟨Pr.le_refl _, Pr.le_refl _, Pr.le_refl _, Pr.le_refl _, Pr.le_refl _, Pr.le_refl _, nil_slice 1, nil_slice 1, Pr.le_refl _, trivial⟩⟩, ⟨_, rfl, agg_le ⟨Pr.le_refl _, Pr.le_refl _, Pr.le_refl _, Pr.le_refl _, Pr.le_refl _, Pr.le_refl _, Pr.le_refl _, nil_slice 15, trivial⟩⟩, trivial⟩) ?_
 refine cm rfl (Ch.nil (Fin.go (Tr.seq (Tr.reg1 mixed (by kernel_rfl) (co rfl (ok_loadA rfl agg35 sz35 (vl rfl) rfl rfl) (co rfl (ok_call rfl (w_RSA) trivial) (cm rfl (co rfl (ok_build (rows := [(0, _), (1, [_])]) rfl bl55 zo55 ⟨⟨rfl, (VL.le (vl rfl) (agg_cellsP _))⟩, ⟨⟨rfl, (VL.le (vl rfl) (one_cellsP _))⟩, trivial⟩⟩ rfl) (co rfl (ok_build (rows := [(1, [_]), (4, _)]) rfl bl58 zo58 ⟨⟨rfl, (VL.le (vl rfl) (one_cellsP _))⟩, ⟨⟨rfl, (VL.le (vl rfl) (agg_cellsP _))⟩, trivial⟩⟩ rfl) ?_)))))))))
 refine co rfl (ok_call rfl (w_ChCheck (e := eT (id_ % 1000)) (c := ⟨0, 5, 0, 0, ⟨5, 2048, id_ % 1000, []⟩⟩) (done_there hn)) ⟨⟨_, rfl, agg_le ⟨Pr.le_refl _, Pr.le_refl _, Pr.le_refl _, Pr.le_refl _, Pr.le_refl _, Pr.le_refl _, nil_slice 1, nil_slice 1, Pr.le_refl _, trivial⟩⟩, ⟨_, rfl, agg_le ⟨Pr.le_refl _, Pr.le_refl _, Pr.le_refl _, Pr.le_refl _, Pr.le_refl _, Pr.le_refl _, Pr.le_refl _, nil_slice 15, trivial⟩⟩, trivial⟩) ?_
 refine cm rfl (Ch.nil (Fin.go (wk4 3 4 5 6 rfl (Tr.seq (Tr.regT (tp rfl (ok_loadA rfl agg35 sz35 (vl rfl) rfl rfl) (tm rfl ?_)))))))
 refine tp rfl (ok_add rfl (vl rfl) (vl rfl) ?hin) ?_; case hin => unfold InI; omega
 refine tp rfl (ok_build (rows := [(1, [_]), (2, [_])]) rfl bl58 zo58 ⟨⟨rfl, (VL.le (vl rfl) (one_cellsP _))⟩, ⟨⟨rfl, (VL.le (vl rfl) (one_cellsP _))⟩, trivial⟩⟩ rfl) ?_
 refine tp rfl (ok_call rfl (w_ChApply (e := eT (id_ % 1000)) (c := chgN 6 (id_ % 1000 + 1)) (done_goes hn)) ⟨⟨_, rfl, agg_le ⟨Pr.le_refl _, Pr.le_refl _, Pr.le_refl _, Pr.le_refl _, Pr.le_refl _, Pr.le_refl _, nil_slice 1, nil_slice 1, Pr.le_refl _, trivial⟩⟩, ⟨_, rfl, agg_le ⟨Pr.le_refl _, Pr.le_refl _, Pr.le_refl _, Pr.le_refl _, Pr.le_refl _, Pr.le_refl _, Pr.le_refl _, nil_slice 15, trivial⟩⟩, trivial⟩) ?_
 refine tm rfl (tp rfl (ok_extract rfl (vl rfl) rfl) (tp rfl (ok_extract rfl (vl rfl) rfl) ?_))
 refine TO.alloc rfl rfl (by decide) rfl z35 zo35 (fun b2 => ?_)
 refine TO.store_all 0 rfl rfl rfl (vl rfl) (VL.le (vl rfl) (agg_cellsP _)) rfl sz35 rfl rfl (TO.freeze 0 7 rfl rfl (tm rfl (TO.nil (Fin.go (wk4 5 6 7 8 rfl (Tr.seq (Tr.reg0 (cm rfl (co rfl (ki rfl rfl rfl rfl) (cm rfl ?_))))))))))
 refine Ch.cs 44 rfl ?_ ?_ <;> intro h1 q1
 refine cym h1 rfl (cy h1 rfl (ki rfl rfl rfl rfl) (co rfl (kpt rfl rfl h1 rfl) (cm rfl ?_)))
 refine Ch.cs 48 rfl ?_ ?_ <;> intro h2 q2
 refine cym h2 rfl (cy h2 rfl (ki rfl rfl rfl rfl) (co rfl (kpt rfl rfl h2 rfl) (cm rfl ?_)))
 refine Ch.cs 52 rfl ?_ ?_ <;> intro h3 q3
 refine cy h3 rfl (kfa rfl fo35_5 rfl rfl) (cy h3 rfl (kl1 rfl one33 rfl) (cy h3 rfl (ok_lenm rfl Try.underlying33 (vl rfl)) (cy h3 rfl (ki rfl rfl rfl rfl) (co rfl (kpt rfl rfl h3 rfl) (cm rfl ?_)))))
 refine Ch.cs 58 rfl ?_ ?_ <;> intro h4 q4
 refine cy h4 rfl (ok_call rfl (w_awake24) trivial) (co rfl (kpt rfl rfl h4 rfl) (cm rfl (Ch.nil (Fin.go (wk1 2 rfl (Tr.ret (Fin.ret1 rfl (OutW.bse _ _) rfl ?_)))))))
 · exact Pr.le_refl _
 have h_ : true = false := h4; exact absurd h_ (by decide)
 exact absurd h3 (by decide)
 exact absurd h2 (by decide)
 exact absurd h1 (by decide)
set_option maxRecDepth 40000 in
theorem changeTwins_lifted (os : Os) (started : os.Started) (H : Type) (enc : TypeId × Value → H) :
    ReturnsInHanded {} Try.checked os 5 .any (Rows.changeTwinsSpec.pre6 enc Try.prog Try.f5 Rows.changeTwinsRow.domain false) (Rows.changeTwinsSpec.post enc Try.prog Try.f5 false true false false) := by
  refine returnsInHanded_of_change (C := Try.checked) own0 started (by kernel_rfl) Try.func5
    (ChangeSpec.witness6 (enc := enc) (C := Try.checked) false ⟨#[], #[.int .i64 0], []⟩ 8 (by kernel_rfl) (by kernel_rfl) (by kernel_rfl) (by kernel_rfl)) ?_
  intro W base args ds gs before hval0 hW hcnd _
  have hval : ∀ (j : Nat) t v, Try.f5.params[j]? = some t → args[j]? = some v → Value.okWide Try.prog W .any base t v := hval0
  have hW' := hW
  obtain ⟨p, q, hA0, hV, hpq, hfz, hnd⟩ := hW
  have hA : DataW.TrodAll enc Try.prog W 0 (fun _ => true) true Try.f5.params.toList args.toList ds p := hA0
  have hA' := hA
  rw [Try.params5] at hA hval
  obtain ⟨v0, d0, rfl, rfl, h0⟩ := trodAll_one hA
  obtain ⟨rfl, rfl⟩ := trodVars_none hV
  obtain ⟨a0, hr0, e0⟩ := arg_one (opens_int Try.underlying3) h0 (by obtain ⟨_, rfl⟩ := okWide_int Try.underlying3 (hval 0 3 v0 rfl rfl); rfl)
  refine ((w_ChangeTwins).2 noM W [v0] (noM_bd W) ⟨e0, trivial⟩).mono fun e W' ⟨v, he, hv, hb⟩ => ?_
  subst he
  obtain rfl : v = .bool true := hv
  exact ⟨_, rfl, law_post laidOut0 (by kernel_rfl) rfl Try.underlying4 rfl hA' (by rw [hpq]; simp) hW' rfl hb⟩
set_option maxRecDepth 40000 in
theorem changeTwins_holds : Rows.ChangeTwinsSaid :=
  OpenClaim.holds_of_wide 5 Try.f5 rfl rfl rfl rfl rfl rfl rfl ⟨rfl, rfl, rfl, rfl, rfl⟩ rfl rfl rfl rfl rfl (by kernel_rfl) Try.func5 (by kernel_rfl)
    (of_decide_eq_true (by kernel_rfl)) (by unfold Func.isWrapper; first | (rw [if_pos (by decide +kernel)]; kernel_rfl) | (rw [if_neg (by decide +kernel)]; exact ⟨rfl, rfl⟩))
    (fun os started H enc _ => changeTwins_lifted os started H enc)
end Go.Proofs.Ytflodcidhlmaaaa
