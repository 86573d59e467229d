/-
  Part 4 of the texts that prove this claim, merged.
-/
import Derived.Lib.AppendZeros
import Derived.Lib.AppendZerosOnto
import Derived.Test.YtgdlhajfajddiaaGreatRoEP3
set_option linter.all false
namespace Go.Proofs.YtgdlhajfajddiaaGreat
open Go Go.RowKit Cp
instance : Inhabited Fnd := ⟨⟨0, [], 0, 0, 0, 0, [], 0, 0, 0, []⟩⟩
set_option maxRecDepth 20000 in
theorem w_sinsG {l : List Fnd} {c : Fnd × Fnd → Int} {b0 cap len : Nat} {sp : List Value} {a b : Int} (hln : l.length = len) (hll : len ≤ 1000000) (hw : Go.Sort.SWO (ltc c)) (h0 : 0 ≤ a) (hab : a ≤ b) (hb : b ≤ len) : FunM Tryz.prog 190 [is (.slice (some ⟨b0, 0, none⟩) len cap), int a, int b, clo Tryz.prog (fun x : Fnd × Fnd => [agg (rowF x.1), agg (rowF x.2)]) (fun x => int (c x))] (unit_) (cellsRes true b0 26 ((l.map rowF).flatten ++ sp.map is)) (fun _ => relRes b0 26 rowF (SortL c a b l) (sp.map is)) := by
 refine FunM.of Tryz.func190 rfl rfl (by exact Nat.le_of_ble_eq_true rfl) fun M0 w0 S rs M1 w1 => ?_
 refine Tr.seq (Tr.reg0 (cm rfl (cad rfl rfl rfl rfl (by omega) (cm rfl (Ch.nil (Fin.go (Tr.block (Tr.loopD2V0 [(0, _), (1, _), (2, _), (3, _)] ⟨ke rfl, ke rfl, ke rfl, ke rfl, trivial⟩ (fun (i : Int) (st : List Fnd) => [(8, int i)]) (fun (i : Int) (st : List Fnd) => Hp M0 w0 S (cellsRes true b0 26 ((st.map rowF).flatten ++ sp.map is) :: extRes M1 w1 :: rs)) (fun (i : Int) (st : List Fnd) => a < i ∧ st.length = len ∧ Go.Sort.insOuter (ltc c) a.toNat b.toNat i.toNat st.toArray = Go.Sort.insertionSort (ltc c) l.toArray a.toNat b.toNat) (fun (i : Int) (st : List Fnd) => (b - i).toNat) (a + 1) (l)  (⟨by omega, by omega, inso_start h0⟩) ⟨ke rfl, trivial⟩ (fun _ _ h => h) ?_))))))))
 rintro i st  ⟨hi1, hsl, hso⟩
 refine Tr.seq (Tr.seq (Tr.reg0 (cm rfl (cm rfl (co rfl (ki rfl rfl rfl rfl) (Ch.nil (Fin.go ?_)))))))
 refine Tr.cn rfl ?_ ?_ <;> intro h1 q1
 have hib : i < b := of_decide_eq_true h1
 refine Tr.skip (Fin.go (Tr.seq (Tr.block (Tr.seq (Tr.reg0 (cm rfl (cm rfl (Ch.nil (Fin.go (Tr.block (Tr.loopD2V0 [(0, _), (1, _), (2, _), (3, _), (8, _)] ⟨ke rfl, ke rfl, ke rfl, ke rfl, ke rfl, trivial⟩ (fun (j : Int) (st2 : List Fnd) => [(9, int j)]) (fun (j : Int) (st2 : List Fnd) => Hp M0 w0 S (cellsRes true b0 26 ((st2.map rowF).flatten ++ sp.map is) :: extRes M1 w1 :: rs)) (fun (j : Int) (st2 : List Fnd) => (a ≤ j ∧ j ≤ i) ∧ st2.length = len ∧ Go.Sort.insInner (ltc c) a.toNat j.toNat st2.toArray = Go.Sort.insInner (ltc c) a.toNat i.toNat st.toArray) (fun (j : Int) (st2 : List Fnd) => (j - a).toNat) (i) (st)  (⟨⟨by omega, by omega⟩, hsl, rfl⟩) ⟨ke rfl, trivial⟩ (fun _ _ h => h) ?_)))))))))))
 rintro j st2  ⟨⟨hj1, hj2⟩, hsl2, hso2⟩
 refine Tr.seq (Tr.seq (Tr.reg1 mixed (by kernel_rfl) (cm rfl (cm rfl (co rfl (ki rfl rfl rfl rfl) (cm rfl ?_))))))
 refine Ch.cs 21 rfl ?_ ?_ <;> intro h2 q2
 refine cym h2 rfl (cym h2 rfl (cym h2 rfl (cy h2 rfl (okp_indexSl rfl Tryz.underlying31 sz26 (vl rfl) (vl rfl) (by omega) (by omega)) (cy h2 rfl (ok_rd 0 rfl (rd_loadA rfl agg26 sz26 (vl rfl) (cells_atG (f := rowF) (fun _ => rfl) (by omega)) rfl)) (cym h2 rfl (cym h2 rfl ?_))))))
 refine cy h2 rfl (ok_sub rfl (vl rfl) (vl rfl) ?hin) ?_; case hin => unfold InI; omega
 refine cy h2 rfl (okp_indexSl rfl Tryz.underlying31 sz26 (vl rfl) (vl rfl) (by omega) (by omega)) (cy h2 rfl (ok_rd 0 rfl (rd_loadA rfl agg26 sz26 (vl rfl) (cells_atG (f := rowF) (fun _ => rfl) (by omega)) rfl)) (cy h2 rfl (ok_callc (_, _) rfl (vl rfl) ⟨ke rfl, ke rfl, trivial⟩) (cy h2 rfl (ki rfl rfl rfl rfl) (co rfl (kpt rfl rfl h2 rfl) (Ch.nil (Fin.go (wk7 0 1 2 3 8 9 34 rfl ?_)))))))
 refine Tr.cn rfl ?_ ?_ <;> intro h3 q3
 have := h3
 refine Tr.skip (Fin.go (Tr.seq (Tr.block (Tr.regX mixed [none, none, none, none, none, none, none, none, none, some (0, 0, false, 0), none, none, none, some (0, 0, false, 0), none, some (0, 0, true, 0), none, some (0, 0, true, 0)] (by kernel_rfl) ?_))))
 iterate 4 refine xm rfl ?_
 refine xo rfl (fun _ => ok_sub rfl (vl rfl) (vl rfl) ?hin) ?_; case hin => unfold InI; omega
 refine xm rfl (xm rfl ?_)
 refine xo rfl (fun _ => ok_sub rfl (vl rfl) (vl rfl) ?hin) ?_; case hin => unfold InI; omega
 refine xo rfl (fun _ => okp_indexSl rfl Tryz.underlying31 sz26 (vl rfl) (vl rfl) (by omega) (by omega)) (xrd 0 rfl rfl (rd_loadA rfl agg26 sz26 (vl rfl) (cells_atG (f := rowF) (fun _ => rfl) (by omega)) rfl) (xm rfl (xm rfl (xo rfl (fun _ => okp_indexSl rfl Tryz.underlying31 sz26 (vl rfl) (vl rfl) (by omega) (by omega)) (xrd 0 rfl rfl (rd_loadA rfl agg26 sz26 (vl rfl) (cells_atG (f := rowF) (fun _ => rfl) (by omega)) rfl) (xo rfl (fun _ => okp_indexSl rfl Tryz.underlying31 sz26 (vl rfl) (vl rfl) (by omega) (by omega)) ?_))))))
 refine Cx.ef0 0 rfl rfl (ef_store rfl rfl (vl rfl) (VL.le (vl rfl) (agg_cellsP _)) sz26 rfl (by rw [cells_len (sz := 11) (fun _ => rfl)]; omega) (cells_setG (f := rowF) (fun _ => rfl) (by omega))) ?_
 refine xo rfl (fun _ => okp_indexSl rfl Tryz.underlying31 sz26 (vl rfl) (vl rfl) (by omega) (by omega)) ?_
 refine Cx.ef0 0 rfl rfl (ef_store rfl rfl (vl rfl) (VL.le (vl rfl) (agg_cellsP _)) sz26 rfl (by rw [cells_len (sz := 11) (fun _ => rfl)]; simp only [List.length_set]; omega) (cells_setG (f := rowF) (fun _ => rfl) (by simp only [List.length_set]; omega))) ?_
 refine Cx.nil ⟨rfl, ?_⟩
 refine FinX.done (AllC.cons (AllC.cons (AllC.map _))) (Fin.block (Fin.go (wk6 0 1 2 3 8 9 rfl (Tr.reg0 (cm rfl (csu rfl rfl rfl rfl (by omega) (cm rfl (Ch.nil ?_))))))))
 exact Fin.famD2V0 (j - 1) (_)  (⟨⟨⟨by omega, by omega⟩, by simp only [List.length_set]; exact hsl2, by rw [ins_go h0 (by omega) rfl (by omega) (by omega) (by assumption)]; exact hso2⟩, by omega⟩) ⟨ke rfl, ke rfl, ke rfl, ke rfl, ke rfl, ke rfl, trivial⟩ (fun _ _ h => h)
 have := h3
 refine Tr.exit (Fin.then_exit (Fin.then_exit (Fin.block_here (Fin.block (Fin.go (Tr.reg0 (cm rfl (cad rfl rfl rfl rfl (by omega) (cm rfl (Ch.nil ?_))))))))))
 have hfin : st2.toArray = Go.Sort.insInner (ltc c) a.toNat j.toNat st2.toArray := by exact ins_stopB h0 (by omega) rfl (by omega) (by omega) (Int.not_lt.2 (by assumption))
 exact Fin.famD2V0 (i + 1) (st2)  (⟨⟨by omega, hsl2, by rw [← hso, ← inso_go (by omega) hib, ← hso2]; exact congrArg _ hfin⟩, by omega⟩) ⟨ke rfl, ke rfl, ke rfl, ke rfl, ke rfl, trivial⟩ (fun _ _ h => h)
 iterate 12 refine cnt h2 rfl ?_
 refine co rfl (kpf rfl rfl h2 rfl) (Ch.nil (Fin.go (wk7 0 1 2 3 8 9 34 rfl (Tr.cond rfl (fun h => nomatch h) (fun _ => ?_)))))
 refine Tr.exit (Fin.then_exit (Fin.then_exit (Fin.block_here (Fin.block (Fin.go (Tr.reg0 (cm rfl (cad rfl rfl rfl rfl (by omega) (cm rfl (Ch.nil ?_))))))))))
 have hfin : st2.toArray = Go.Sort.insInner (ltc c) a.toNat j.toNat st2.toArray := by exact ins_stopA h0 (by omega)
 exact Fin.famD2V0 (i + 1) (st2)  (⟨⟨by omega, hsl2, by rw [← hso, ← inso_go (by omega) hib, ← hso2]; exact congrArg _ hfin⟩, by omega⟩) ⟨ke rfl, ke rfl, ke rfl, ke rfl, ke rfl, trivial⟩ (fun _ _ h => h)
 have hib : ¬ i < b := of_decide_eq_false h1
 rw [inso_stop (by omega) hib] at hso
 refine Tr.exit (Fin.then_exit (Fin.then_exit (Fin.block_here ?_)))
 refine Fin.closeL (SortL c a b l) 0 rfl (by unfold SortL; rw [hso]; exact Go.Sort.insertionSort_holds hw l.toArray a.toNat b.toNat (by omega) (by simp only [List.size_toArray]; omega)) ?_
 exact Fin.retM0 rfl
set_option maxRecDepth 20000 in
theorem w_ssiftG {l : List Fnd} {c : Fnd × Fnd → Int} {b0 cap len : Nat} {sp : List Value} {lo hi first : Int} (hln : l.length = len) (hll : len ≤ 1000000) (h0 : 0 ≤ lo) (hlo : lo ≤ len) (hf : 0 ≤ first) (hb : first + hi ≤ len) : FunM Tryz.prog 226 [is (.slice (some ⟨b0, 0, none⟩) len cap), int lo, int hi, int first, clo Tryz.prog (fun x : Fnd × Fnd => [agg (rowF x.1), agg (rowF x.2)]) (fun x => int (c x))] (unit_) (cellsRes true b0 26 ((l.map rowF).flatten ++ sp.map is)) (fun _ => relRes b0 26 rowF (SiftL c hi first lo l) (sp.map is)) := by
 refine FunM.of Tryz.func226 rfl rfl (by exact Nat.le_of_ble_eq_true rfl) fun M0 w0 S rs M1 w1 => ?_
 refine Tr.seq (Tr.reg0 (cm rfl (cm rfl (Ch.nil (Fin.go (Tr.block (Tr.loopD2V0 [(0, _), (2, _), (3, _), (4, _)] ⟨ke rfl, ke rfl, ke rfl, ke rfl, trivial⟩ (fun (r : Int) (st : List Fnd) => [(10, int r)]) (fun (r : Int) (st : List Fnd) => Hp M0 w0 S (cellsRes true b0 26 ((st.map rowF).flatten ++ sp.map is) :: extRes M1 w1 :: rs)) (fun (r : Int) (st : List Fnd) => (0 ≤ r ∧ r ≤ 1000000) ∧ st.length = len ∧ Go.Sort.siftDown (ltc c) hi.toNat first.toNat r.toNat st.toArray = Go.Sort.siftDown (ltc c) hi.toNat first.toNat lo.toNat l.toArray) (fun (r : Int) (st : List Fnd) => (hi - r).toNat) (lo) (l)  (⟨⟨by omega, by omega⟩, by omega, rfl⟩) ⟨ke rfl, trivial⟩ (fun _ _ h => h) ?_)))))))
 rintro r st  ⟨⟨h0r, hr2⟩, hsl, hso⟩
 refine Tr.block (Tr.seq (Tr.reg0 (cm rfl ?_)))
 refine co rfl (ok_mul rfl (vl rfl) (vl rfl) ?hin) ?_; case hin => unfold InI; omega
 refine cad rfl rfl rfl rfl (by omega) (cm rfl (Ch.nil (Fin.go (Tr.seq (Tr.seq (Tr.reg0 (cm rfl (cm rfl (co rfl (ki rfl rfl rfl rfl) (Ch.nil (Fin.go ?_)))))))))))
 refine Tr.cn rfl ?_ ?_ <;> intro h1 q1
 refine Tr.exit (Fin.then_exit (Fin.block_on rfl (Fin.then_exit (Fin.block_here ?_))))
 refine Fin.closeL (SiftL c hi first lo l) 0 rfl (⟨by omega, by rw [← hso]; exact sift_end (by omega) (by omega)⟩) ?_
 exact Fin.retM0 rfl
 refine Tr.skip (Fin.go (Tr.seq (Tr.seq (Tr.reg1 mixed (by kernel_rfl) (cm rfl (cad rfl rfl rfl rfl (by omega) (cm rfl (co rfl (ki rfl rfl rfl rfl) (cm rfl ?_)))))))))
 refine Ch.cs 23 rfl ?_ ?_ <;> intro h2 q2
 iterate 4 refine cym h2 rfl ?_
 refine cy h2 rfl (ok_add rfl (vl rfl) (vl rfl) ?hin) ?_; case hin => unfold InI; omega
 refine cy h2 rfl (okp_indexSl rfl Tryz.underlying31 sz26 (vl rfl) (vl rfl) (by omega) (by omega)) (cy h2 rfl (ok_rd 0 rfl (rd_loadA rfl agg26 sz26 (vl rfl) (cells_atG (f := rowF) (fun _ => rfl) (by omega)) rfl)) (cym h2 rfl (cym h2 rfl (cym h2 rfl ?_))))
 refine cy h2 rfl (ok_add rfl (vl rfl) (vl rfl) ?hin) ?_; case hin => unfold InI; omega
 refine cy h2 rfl (ok_add rfl (vl rfl) (vl rfl) ?hin) ?_; case hin => unfold InI; omega
 refine cy h2 rfl (okp_indexSl rfl Tryz.underlying31 sz26 (vl rfl) (vl rfl) (by omega) (by omega)) (cy h2 rfl (ok_rd 0 rfl (rd_loadA rfl agg26 sz26 (vl rfl) (cells_atG (f := rowF) (fun _ => rfl) (by omega)) rfl)) (cy h2 rfl (ok_callc (_, _) rfl (vl rfl) ⟨ke rfl, ke rfl, trivial⟩) (cy h2 rfl (ki rfl rfl rfl rfl) (co rfl (kpt rfl rfl h2 rfl) (Ch.nil (Fin.go (wk7 0 2 3 4 10 11 40 rfl ?_)))))))
 refine Tr.cn rfl ?_ ?_ <;> intro h3 q3
 refine Tr.reg0 (cm rfl (cad rfl rfl rfl rfl (by omega) (cm rfl (Ch.nil (Fin.go (Tr.seq (Tr.seq (Tr.reg1 mixed (by kernel_rfl) ?_))))))))
 iterate 4 refine cm rfl ?_
 refine cad rfl rfl rfl rfl (by omega) (co rfl (okp_indexSl rfl Tryz.underlying31 sz26 (vl rfl) (vl rfl) (by omega) (by omega)) (co rfl (ok_rd 0 rfl (rd_loadA rfl agg26 sz26 (vl rfl) (cells_atG (f := rowF) (fun _ => rfl) (by omega)) rfl)) (cm rfl (cm rfl (cm rfl (cad rfl rfl rfl rfl (by omega) (co rfl (okp_indexSl rfl Tryz.underlying31 sz26 (vl rfl) (vl rfl) (by omega) (by omega)) (co rfl (ok_rd 0 rfl (rd_loadA rfl agg26 sz26 (vl rfl) (cells_atG (f := rowF) (fun _ => rfl) (by omega)) rfl)) (co rfl (ok_callc (_, _) rfl (vl rfl) ⟨ke rfl, ke rfl, trivial⟩) (co rfl (ki rfl rfl rfl rfl) (co rfl (ok_not rfl (vl rfl)) (Ch.nil (Fin.go ?_)))))))))))))
 refine wk7 0 2 3 4 10 11 58 rfl ?_
 refine Tr.cn rfl ?_ ?_ <;> intro h4 q4
 refine Tr.ret (Fin.then_ret (Fin.block_ret (Fin.then_ret (Fin.block_ret ?_))))
 refine Fin.closeL (SiftL c hi first lo l) 0 rfl (⟨by omega, by rw [← hso]; exact sift_stopR h0r hf (by omega) (u := first + (2 * r + 1)) (v := first + (2 * r + 1) + 1) rfl rfl (by omega) (by omega) (by assumption) (x := first + r) (y := first + (2 * r + 1 + 1)) rfl rfl (by omega) (by omega) (Int.not_lt.2 (by assumption))⟩) ?_
 exact Fin.retM0r rfl
 refine Tr.skip (Fin.go (Tr.seq (Tr.regX mixed [none, none, none, none, none, none, none, none, none, none, none, none, none, some (0, 0, false, 0), none, none, none, none, none, some (0, 0, false, 0), none, some (0, 0, true, 0), none, some (0, 0, true, 0)] (by kernel_rfl) (xm rfl (xm rfl (xm rfl ?_))))))
 refine xo rfl (fun _ => ok_add rfl (vl rfl) (vl rfl) ?hin) ?_; case hin => unfold InI; omega
 refine xm rfl (xm rfl (xm rfl ?_))
 refine xo rfl (fun _ => ok_add rfl (vl rfl) (vl rfl) ?hin) ?_; case hin => unfold InI; omega
 refine xm rfl (xm rfl (xm rfl ?_))
 refine xo rfl (fun _ => ok_add rfl (vl rfl) (vl rfl) ?hin) ?_; case hin => unfold InI; omega
 refine xo rfl (fun _ => okp_indexSl rfl Tryz.underlying31 sz26 (vl rfl) (vl rfl) (by omega) (by omega)) (xrd 0 rfl rfl (rd_loadA rfl agg26 sz26 (vl rfl) (cells_atG (f := rowF) (fun _ => rfl) (by omega)) rfl) (xm rfl (xm rfl (xm rfl ?_))))
 refine xo rfl (fun _ => ok_add rfl (vl rfl) (vl rfl) ?hin) ?_; case hin => unfold InI; omega
 refine xo rfl (fun _ => okp_indexSl rfl Tryz.underlying31 sz26 (vl rfl) (vl rfl) (by omega) (by omega)) (xrd 0 rfl rfl (rd_loadA rfl agg26 sz26 (vl rfl) (cells_atG (f := rowF) (fun _ => rfl) (by omega)) rfl) (xo rfl (fun _ => okp_indexSl rfl Tryz.underlying31 sz26 (vl rfl) (vl rfl) (by omega) (by omega)) ?_))
 refine Cx.ef0 0 rfl rfl (ef_store rfl rfl (vl rfl) (VL.le (vl rfl) (agg_cellsP _)) sz26 rfl (by rw [cells_len (sz := 11) (fun _ => rfl)]; omega) (cells_setG (f := rowF) (fun _ => rfl) (by omega))) ?_
 refine xo rfl (fun _ => okp_indexSl rfl Tryz.underlying31 sz26 (vl rfl) (vl rfl) (by omega) (by omega)) ?_
 refine Cx.ef0 0 rfl rfl (ef_store rfl rfl (vl rfl) (VL.le (vl rfl) (agg_cellsP _)) sz26 rfl (by rw [cells_len (sz := 11) (fun _ => rfl)]; simp only [List.length_set]; omega) (cells_setG (f := rowF) (fun _ => rfl) (by simp only [List.length_set]; omega))) ?_
 refine Cx.nil ⟨rfl, ?_⟩
 refine FinX.done (AllC.cons (AllC.cons (AllC.map _))) (Fin.go (wk5 0 2 3 4 11 rfl (Tr.reg0 (cm rfl (cm rfl (Ch.nil (Fin.block ?_)))))))
 exact Fin.famD2V0 (2 * r + 1 + 1) (_)  (⟨⟨⟨by omega, by omega⟩, by simp only [List.length_set]; exact hsl, by rw [← hso]; exact sift_goR h0r hf (by omega) (u := first + (2 * r + 1)) (v := first + (2 * r + 1) + 1) rfl rfl (by omega) (by omega) (by assumption) (by omega) (by omega) (by omega) (by omega) (by assumption)⟩, by omega⟩) ⟨ke rfl, ke rfl, ke rfl, ke rfl, ke rfl, trivial⟩ (fun _ _ h => h)
 refine Tr.skip (Fin.go (Tr.seq (Tr.seq (Tr.reg1 mixed (by kernel_rfl) ?_))))
 iterate 4 refine cm rfl ?_
 refine cad rfl rfl rfl rfl (by omega) (co rfl (okp_indexSl rfl Tryz.underlying31 sz26 (vl rfl) (vl rfl) (by omega) (by omega)) (co rfl (ok_rd 0 rfl (rd_loadA rfl agg26 sz26 (vl rfl) (cells_atG (f := rowF) (fun _ => rfl) (by omega)) rfl)) (cm rfl (cm rfl (cm rfl (cad rfl rfl rfl rfl (by omega) (co rfl (okp_indexSl rfl Tryz.underlying31 sz26 (vl rfl) (vl rfl) (by omega) (by omega)) (co rfl (ok_rd 0 rfl (rd_loadA rfl agg26 sz26 (vl rfl) (cells_atG (f := rowF) (fun _ => rfl) (by omega)) rfl)) (co rfl (ok_callc (_, _) rfl (vl rfl) ⟨ke rfl, ke rfl, trivial⟩) (co rfl (ki rfl rfl rfl rfl) (co rfl (ok_not rfl (vl rfl)) (Ch.nil (Fin.go ?_)))))))))))))
 refine wk7 0 2 3 4 10 11 58 rfl ?_
 refine Tr.cn rfl ?_ ?_ <;> intro h5 q5
 refine Tr.ret (Fin.then_ret (Fin.block_ret (Fin.then_ret (Fin.block_ret ?_))))
 refine Fin.closeL (SiftL c hi first lo l) 0 rfl (⟨by omega, by rw [← hso]; exact sift_stopLb h0r hf (by omega) (u := first + (2 * r + 1)) (v := first + (2 * r + 1) + 1) rfl rfl (by omega) (by omega) (Int.not_lt.2 (by assumption)) (x := first + r) (y := first + (2 * r + 1)) rfl rfl (by omega) (by omega) (Int.not_lt.2 (by assumption))⟩) ?_
 exact Fin.retM0r rfl
 refine Tr.skip (Fin.go (Tr.seq (Tr.regX mixed [none, none, none, none, none, none, none, none, none, none, none, none, none, some (0, 0, false, 0), none, none, none, none, none, some (0, 0, false, 0), none, some (0, 0, true, 0), none, some (0, 0, true, 0)] (by kernel_rfl) (xm rfl (xm rfl (xm rfl ?_))))))
 refine xo rfl (fun _ => ok_add rfl (vl rfl) (vl rfl) ?hin) ?_; case hin => unfold InI; omega
 refine xm rfl (xm rfl (xm rfl ?_))
 refine xo rfl (fun _ => ok_add rfl (vl rfl) (vl rfl) ?hin) ?_; case hin => unfold InI; omega
 refine xm rfl (xm rfl (xm rfl ?_))
 refine xo rfl (fun _ => ok_add rfl (vl rfl) (vl rfl) ?hin) ?_; case hin => unfold InI; omega
 refine xo rfl (fun _ => okp_indexSl rfl Tryz.underlying31 sz26 (vl rfl) (vl rfl) (by omega) (by omega)) (xrd 0 rfl rfl (rd_loadA rfl agg26 sz26 (vl rfl) (cells_atG (f := rowF) (fun _ => rfl) (by omega)) rfl) (xm rfl (xm rfl (xm rfl ?_))))
 refine xo rfl (fun _ => ok_add rfl (vl rfl) (vl rfl) ?hin) ?_; case hin => unfold InI; omega
 refine xo rfl (fun _ => okp_indexSl rfl Tryz.underlying31 sz26 (vl rfl) (vl rfl) (by omega) (by omega)) (xrd 0 rfl rfl (rd_loadA rfl agg26 sz26 (vl rfl) (cells_atG (f := rowF) (fun _ => rfl) (by omega)) rfl) (xo rfl (fun _ => okp_indexSl rfl Tryz.underlying31 sz26 (vl rfl) (vl rfl) (by omega) (by omega)) ?_))
 refine Cx.ef0 0 rfl rfl (ef_store rfl rfl (vl rfl) (VL.le (vl rfl) (agg_cellsP _)) sz26 rfl (by rw [cells_len (sz := 11) (fun _ => rfl)]; omega) (cells_setG (f := rowF) (fun _ => rfl) (by omega))) ?_
 refine xo rfl (fun _ => okp_indexSl rfl Tryz.underlying31 sz26 (vl rfl) (vl rfl) (by omega) (by omega)) ?_
 refine Cx.ef0 0 rfl rfl (ef_store rfl rfl (vl rfl) (VL.le (vl rfl) (agg_cellsP _)) sz26 rfl (by rw [cells_len (sz := 11) (fun _ => rfl)]; simp only [List.length_set]; omega) (cells_setG (f := rowF) (fun _ => rfl) (by simp only [List.length_set]; omega))) ?_
 refine Cx.nil ⟨rfl, ?_⟩
 refine FinX.done (AllC.cons (AllC.cons (AllC.map _))) (Fin.go (wk5 0 2 3 4 11 rfl (Tr.reg0 (cm rfl (cm rfl (Ch.nil (Fin.block ?_)))))))
 exact Fin.famD2V0 (2 * r + 1) (_)  (⟨⟨⟨by omega, by omega⟩, by simp only [List.length_set]; exact hsl, by rw [← hso]; exact sift_goLb h0r hf (by omega) (u := first + (2 * r + 1)) (v := first + (2 * r + 1) + 1) rfl rfl (by omega) (by omega) (Int.not_lt.2 (by assumption)) (by omega) (by omega) (by omega) (by omega) (by assumption)⟩, by omega⟩) ⟨ke rfl, ke rfl, ke rfl, ke rfl, ke rfl, trivial⟩ (fun _ _ h => h)
 iterate 16 refine cnt h2 rfl ?_
 refine co rfl (kpf rfl rfl h2 rfl) (Ch.nil (Fin.go (wk7 0 2 3 4 10 11 40 rfl (Tr.cond rfl (fun h => nomatch h) (fun _ => ?_)))))
 refine Tr.skip (Fin.go (Tr.seq (Tr.seq (Tr.reg1 mixed (by kernel_rfl) ?_))))
 iterate 4 refine cm rfl ?_
 refine cad rfl rfl rfl rfl (by omega) (co rfl (okp_indexSl rfl Tryz.underlying31 sz26 (vl rfl) (vl rfl) (by omega) (by omega)) (co rfl (ok_rd 0 rfl (rd_loadA rfl agg26 sz26 (vl rfl) (cells_atG (f := rowF) (fun _ => rfl) (by omega)) rfl)) (cm rfl (cm rfl (cm rfl (cad rfl rfl rfl rfl (by omega) (co rfl (okp_indexSl rfl Tryz.underlying31 sz26 (vl rfl) (vl rfl) (by omega) (by omega)) (co rfl (ok_rd 0 rfl (rd_loadA rfl agg26 sz26 (vl rfl) (cells_atG (f := rowF) (fun _ => rfl) (by omega)) rfl)) (co rfl (ok_callc (_, _) rfl (vl rfl) ⟨ke rfl, ke rfl, trivial⟩) (co rfl (ki rfl rfl rfl rfl) (co rfl (ok_not rfl (vl rfl)) (Ch.nil (Fin.go ?_)))))))))))))
 refine wk7 0 2 3 4 10 11 58 rfl ?_
 refine Tr.cn rfl ?_ ?_ <;> intro h6 q6
 refine Tr.ret (Fin.then_ret (Fin.block_ret (Fin.then_ret (Fin.block_ret ?_))))
 refine Fin.closeL (SiftL c hi first lo l) 0 rfl (⟨by omega, by rw [← hso]; exact sift_stopLa h0r hf (by omega) (by omega) (x := first + r) (y := first + (2 * r + 1)) rfl rfl (by omega) (by omega) (Int.not_lt.2 (by assumption))⟩) ?_
 exact Fin.retM0r rfl
 refine Tr.skip (Fin.go (Tr.seq (Tr.regX mixed [none, none, none, none, none, none, none, none, none, none, none, none, none, some (0, 0, false, 0), none, none, none, none, none, some (0, 0, false, 0), none, some (0, 0, true, 0), none, some (0, 0, true, 0)] (by kernel_rfl) (xm rfl (xm rfl (xm rfl ?_))))))
 refine xo rfl (fun _ => ok_add rfl (vl rfl) (vl rfl) ?hin) ?_; case hin => unfold InI; omega
 refine xm rfl (xm rfl (xm rfl ?_))
 refine xo rfl (fun _ => ok_add rfl (vl rfl) (vl rfl) ?hin) ?_; case hin => unfold InI; omega
 refine xm rfl (xm rfl (xm rfl ?_))
 refine xo rfl (fun _ => ok_add rfl (vl rfl) (vl rfl) ?hin) ?_; case hin => unfold InI; omega
 refine xo rfl (fun _ => okp_indexSl rfl Tryz.underlying31 sz26 (vl rfl) (vl rfl) (by omega) (by omega)) (xrd 0 rfl rfl (rd_loadA rfl agg26 sz26 (vl rfl) (cells_atG (f := rowF) (fun _ => rfl) (by omega)) rfl) (xm rfl (xm rfl (xm rfl ?_))))
 refine xo rfl (fun _ => ok_add rfl (vl rfl) (vl rfl) ?hin) ?_; case hin => unfold InI; omega
 refine xo rfl (fun _ => okp_indexSl rfl Tryz.underlying31 sz26 (vl rfl) (vl rfl) (by omega) (by omega)) (xrd 0 rfl rfl (rd_loadA rfl agg26 sz26 (vl rfl) (cells_atG (f := rowF) (fun _ => rfl) (by omega)) rfl) (xo rfl (fun _ => okp_indexSl rfl Tryz.underlying31 sz26 (vl rfl) (vl rfl) (by omega) (by omega)) ?_))
 refine Cx.ef0 0 rfl rfl (ef_store rfl rfl (vl rfl) (VL.le (vl rfl) (agg_cellsP _)) sz26 rfl (by rw [cells_len (sz := 11) (fun _ => rfl)]; omega) (cells_setG (f := rowF) (fun _ => rfl) (by omega))) ?_
 refine xo rfl (fun _ => okp_indexSl rfl Tryz.underlying31 sz26 (vl rfl) (vl rfl) (by omega) (by omega)) ?_
 refine Cx.ef0 0 rfl rfl (ef_store rfl rfl (vl rfl) (VL.le (vl rfl) (agg_cellsP _)) sz26 rfl (by rw [cells_len (sz := 11) (fun _ => rfl)]; simp only [List.length_set]; omega) (cells_setG (f := rowF) (fun _ => rfl) (by simp only [List.length_set]; omega))) ?_
 refine Cx.nil ⟨rfl, ?_⟩
 refine FinX.done (AllC.cons (AllC.cons (AllC.map _))) (Fin.go (wk5 0 2 3 4 11 rfl (Tr.reg0 (cm rfl (cm rfl (Ch.nil (Fin.block ?_)))))))
 exact Fin.famD2V0 (2 * r + 1) (_)  (⟨⟨⟨by omega, by omega⟩, by simp only [List.length_set]; exact hsl, by rw [← hso]; exact sift_goLa h0r hf (by omega) (by omega) (by omega) (by omega) (by omega) (by omega) (by assumption)⟩, by omega⟩) ⟨ke rfl, ke rfl, ke rfl, ke rfl, ke rfl, trivial⟩ (fun _ _ h => h)
set_option maxRecDepth 20000 in
theorem w_sheapG {l : List Fnd} {c : Fnd × Fnd → Int} {b0 cap len : Nat} {sp : List Value} {a b : Int} (hln : l.length = len) (hll : len ≤ 1000000) (hw : Go.Sort.SWO (ltc c)) (h0 : 0 ≤ a) (hab : a ≤ b) (hb : b ≤ len) : FunM Tryz.prog 191 [is (.slice (some ⟨b0, 0, none⟩) len cap), int a, int b, clo Tryz.prog (fun x : Fnd × Fnd => [agg (rowF x.1), agg (rowF x.2)]) (fun x => int (c x))] (unit_) (cellsRes true b0 26 ((l.map rowF).flatten ++ sp.map is)) (fun _ => relRes b0 26 rowF (SortL c a b l) (sp.map is)) := by
 refine FunM.of Tryz.func191 rfl rfl (by exact Nat.le_of_ble_eq_true rfl) fun M0 w0 S rs M1 w1 => ?_
 have hq : IntKind.i64.wrap ((b - a - 1).tdiv 2) = (((b.toNat - a.toNat - 1) / 2 : Nat) : Int) := heap_half (by omega) (by omega) (by omega)
 refine Tr.seq (Tr.reg0 (cm rfl (cm rfl (Ch.nil (Fin.go (Tr.seq (Tr.reg0 (cm rfl (Ch.nil (Fin.go (Tr.seq (Tr.reg0 (cm rfl ?_)))))))))))))
 refine cm rfl (csu rfl rfl rfl rfl (by omega) (cm rfl (Ch.nil (Fin.go (Tr.seq (Tr.seq (Tr.reg0 (cm rfl (csu rfl rfl rfl rfl (by omega) (co rfl (ok_quo rfl (vl rfl) (vl rfl) (by omega)) (cm rfl (Ch.nil (Fin.go (Tr.block ?_))))))))))))))
 refine Tr.loopD2V0 [(0, _), (3, _), (8, _), (9, _), (10, _)] ⟨ke rfl, ke rfl, ke rfl, ke rfl, ke rfl, trivial⟩ (fun (i : Int) (st : List Fnd) => [(11, int i)]) (fun (i : Int) (st : List Fnd) => Hp M0 w0 S (cellsRes true b0 26 ((st.map rowF).flatten ++ sp.map is) :: extRes M1 w1 :: rs)) (fun (i : Int) (st : List Fnd) => (-1 ≤ i ∧ i ≤ b - a) ∧ st.length = len ∧ Go.Sort.heapBuild (ltc c) (b - a).toNat a.toNat (i + 1).toNat st.toArray = Go.Sort.heapBuild (ltc c) (b - a).toNat a.toNat ((b.toNat - a.toNat - 1) / 2 + 1) l.toArray) (fun (i : Int) (st : List Fnd) => (i + 1).toNat) ((((b.toNat - a.toNat - 1) / 2 : Nat) : Int)) (l)  (⟨⟨by omega, by omega⟩, by omega, by rw [show ((((b.toNat - a.toNat - 1) / 2 : Nat) : Int) + 1).toNat = (b.toNat - a.toNat - 1) / 2 + 1 by omega]⟩) ⟨⟨_, rfl, int_eq hq⟩, trivial⟩ (fun _ _ h => h) ?_
 rintro i st  ⟨⟨hi1, hi2⟩, hsl, hso⟩
 refine Tr.seq (Tr.seq (Tr.reg0 (cm rfl (co rfl (ki rfl rfl rfl rfl) (Ch.nil (Fin.go ?_))))))
 refine Tr.cn rfl ?_ ?_ <;> intro h1 q1
 have hib : 0 ≤ i := of_decide_eq_true h1
 refine Tr.skip (Fin.go (Tr.seq (Tr.block (Tr.regT ?_))))
 iterate 5 refine tm rfl ?_
 refine TO.efc 0 rfl rfl (by decide) (ef_callc rfl rfl (by decide) rfl (w_ssiftG (by omega) (by omega) (by omega) (by omega) (by omega) (by omega)) ⟨ke rfl, ke rfl, ke rfl, ke rfl, ke rfl, trivial⟩) (TO.openL 0 rfl fun t1 hp1 => ?_)
 have hpl1 := hp1.len
 refine TO.nil (Fin.block (Fin.go (wk6 0 3 8 9 10 11 rfl (Tr.reg0 (cm rfl (csu rfl rfl rfl rfl (by omega) (cm rfl (Ch.nil ?_))))))))
 exact Fin.famD2V0 (i - 1) (t1)  (⟨⟨⟨by omega, by omega⟩, by omega, by rw [hp1.2]; exact (build_go hib).trans hso⟩, by omega⟩) ⟨ke rfl, ke rfl, ke rfl, ke rfl, ke rfl, ke rfl, trivial⟩ (fun _ _ h => h)
 have hib : ¬ 0 ≤ i := of_decide_eq_false h1
 rw [build_end hib] at hso
 refine Tr.exit (Fin.then_exit (Fin.then_exit (Fin.block_here (Fin.go (Tr.seq (Tr.reg0 (cm rfl (csu rfl rfl rfl rfl (by omega) (cm rfl (Ch.nil (Fin.go (Tr.block (Tr.loopD2V0 [(0, _), (3, _), (8, _), (9, _)] ⟨ke rfl, ke rfl, ke rfl, ke rfl, trivial⟩ (fun (i2 : Int) (st2 : List Fnd) => [(12, int i2)]) (fun (i2 : Int) (st2 : List Fnd) => Hp M0 w0 S (cellsRes true b0 26 ((st2.map rowF).flatten ++ sp.map is) :: extRes M1 w1 :: rs)) (fun (i2 : Int) (st2 : List Fnd) => (-1 ≤ i2 ∧ i2 < b - a) ∧ st2.length = len ∧ Go.Sort.heapPop (ltc c) a.toNat (i2 + 1).toNat st2.toArray = Go.Sort.heapPop (ltc c) a.toNat (b - a).toNat st.toArray) (fun (i2 : Int) (st2 : List Fnd) => (i2 + 1).toNat) (b - a - 1) (st)  (⟨⟨by omega, by omega⟩, by omega, by rw [show (b - a - 1 + 1).toNat = (b - a).toNat by omega]⟩) ⟨ke rfl, trivial⟩ (fun _ _ h => h) ?_)))))))))))))
 rintro i2 st2  ⟨⟨hj1, hj2⟩, hsl2, hso2⟩
 refine Tr.seq (Tr.seq (Tr.reg0 (cm rfl (co rfl (ki rfl rfl rfl rfl) (Ch.nil (Fin.go ?_))))))
 refine Tr.cn rfl ?_ ?_ <;> intro h2 q2
 have hib2 : 0 ≤ i2 := of_decide_eq_true h2
 refine Tr.skip (Fin.go (Tr.seq (Tr.block (Tr.seq (Tr.regX mixed [none, none, none, none, none, none, none, none, none, none, none, some (0, 0, false, 0), none, none, none, some (0, 0, false, 0), none, some (0, 0, true, 0), none, some (0, 0, true, 0)] (by kernel_rfl) ?_)))))
 iterate 5 refine xm rfl ?_
 refine xo rfl (fun _ => ok_add rfl (vl rfl) (vl rfl) ?hin) ?_; case hin => unfold InI; omega
 refine xm rfl (xm rfl (xm rfl ?_))
 refine xo rfl (fun _ => ok_add rfl (vl rfl) (vl rfl) ?hin) ?_; case hin => unfold InI; omega
 refine xo rfl (fun _ => okp_indexSl rfl Tryz.underlying31 sz26 (vl rfl) (vl rfl) (by omega) (by omega)) (xrd 0 rfl rfl (rd_loadA rfl agg26 sz26 (vl rfl) (cells_atG (f := rowF) (fun _ => rfl) (by omega)) rfl) (xm rfl (xm rfl (xo rfl (fun _ => okp_indexSl rfl Tryz.underlying31 sz26 (vl rfl) (vl rfl) (by omega) (by omega)) (xrd 0 rfl rfl (rd_loadA rfl agg26 sz26 (vl rfl) (cells_atG (f := rowF) (fun _ => rfl) (by omega)) rfl) (xo rfl (fun _ => okp_indexSl rfl Tryz.underlying31 sz26 (vl rfl) (vl rfl) (by omega) (by omega)) ?_))))))
 refine Cx.ef0 0 rfl rfl (ef_store rfl rfl (vl rfl) (VL.le (vl rfl) (agg_cellsP _)) sz26 rfl (by rw [cells_len (sz := 11) (fun _ => rfl)]; omega) (cells_setG (f := rowF) (fun _ => rfl) (by omega))) ?_
 refine xo rfl (fun _ => okp_indexSl rfl Tryz.underlying31 sz26 (vl rfl) (vl rfl) (by omega) (by omega)) ?_
 refine Cx.ef0 0 rfl rfl (ef_store rfl rfl (vl rfl) (VL.le (vl rfl) (agg_cellsP _)) sz26 rfl (by rw [cells_len (sz := 11) (fun _ => rfl)]; simp only [List.length_set]; omega) (cells_setG (f := rowF) (fun _ => rfl) (by simp only [List.length_set]; omega))) ?_
 refine Cx.nil ⟨rfl, ?_⟩
 refine FinX.done (AllC.cons (AllC.cons (AllC.map _))) (Fin.go (wk5 0 3 8 9 12 rfl (Tr.regT ?_)))
 iterate 5 refine tm rfl ?_
 refine TO.efc 0 rfl rfl (by decide) (ef_callc rfl rfl (by decide) rfl (w_ssiftG (by simp only [List.length_set]; omega) (by omega) (by omega) (by omega) (by omega) (by omega)) ⟨ke rfl, ke rfl, ke rfl, ke rfl, ke rfl, trivial⟩) ?_
 refine TO.openL 0 rfl fun t2 hp2 => ?_
 have hpl2 := hp2.len
 refine TO.nil (Fin.block (Fin.go (Tr.reg0 (cm rfl (csu rfl rfl rfl rfl (by omega) (cm rfl (Ch.nil ?_)))))))
 exact Fin.famD2V0 (i2 - 1) (t2)  (⟨⟨⟨by omega, by omega⟩, by simp only [List.length_set] at hpl2; omega, by rw [hp2.2, sw (by omega) (by omega), show (a + i2).toNat = a.toNat + i2.toNat by omega]; exact (pop_go hib2).trans hso2⟩, by omega⟩) ⟨ke rfl, ke rfl, ke rfl, ke rfl, ke rfl, trivial⟩ (fun _ _ h => h)
 have hib2 : ¬ 0 ≤ i2 := of_decide_eq_false h2
 rw [pop_end hib2] at hso2
 refine Tr.exit (Fin.then_exit (Fin.then_exit (Fin.block_here ?_)))
 refine Fin.closeL (SortL c a b l) 0 rfl (by unfold SortL; rw [hso2, hso]; exact heap_holds hw l.toArray h0 hab (by simp only [List.size_toArray]; omega)) ?_
 exact Fin.retM0 rfl
set_option maxRecDepth 20000 in
theorem w_srevG {l : List Fnd} {c : Fnd × Fnd → Int} {b0 cap len : Nat} {sp : List Value} {a b : Int} (hln : l.length = len) (hll : len ≤ 1000000) (h0 : 0 ≤ a) (hab : a < b) (hb : b ≤ len) : FunM Tryz.prog 194 [is (.slice (some ⟨b0, 0, none⟩) len cap), int a, int b, clo Tryz.prog (fun x : Fnd × Fnd => [agg (rowF x.1), agg (rowF x.2)]) (fun x => int (c x))] (unit_) (cellsRes true b0 26 ((l.map rowF).flatten ++ sp.map is)) (fun _ => relRes b0 26 rowF (PermL a b l) (sp.map is)) := by
 refine FunM.of Tryz.func194 rfl rfl (by exact Nat.le_of_ble_eq_true rfl) fun M0 w0 S rs M1 w1 => ?_
 refine Tr.seq (Tr.reg0 (cm rfl (cm rfl (Ch.nil (Fin.go (Tr.seq (Tr.reg0 (cm rfl (csu rfl rfl rfl rfl (by omega) (cm rfl (Ch.nil (Fin.go (Tr.block (Tr.loopD3V0 [(0, _)] ⟨ke rfl, trivial⟩ (fun (i : Int) (j : Int) (st : List Fnd) => [(8, int i), (9, int j)]) (fun (i : Int) (j : Int) (st : List Fnd) => Hp M0 w0 S (cellsRes true b0 26 ((st.map rowF).flatten ++ sp.map is) :: extRes M1 w1 :: rs)) (fun (i : Int) (j : Int) (st : List Fnd) => (a ≤ i ∧ j < b ∧ -1 ≤ j ∧ i ≤ b) ∧ st.length = len ∧ PermL a b l st) (fun (i : Int) (j : Int) (st : List Fnd) => (j - i).toNat) (a) (b - 1) (l)  (⟨⟨by omega, by omega, by omega, by omega⟩, by omega, PermL.refl _ _ _⟩) ⟨ke rfl, ke rfl, trivial⟩ (fun _ _ h => h) ?_))))))))))))))
 rintro i j st  ⟨⟨hi1, hi2, hi3, hi4⟩, hsl, hso⟩
 refine Tr.seq (Tr.seq (Tr.reg0 (cm rfl (cm rfl (co rfl (ki rfl rfl rfl rfl) (Ch.nil (Fin.go ?_)))))))
 refine Tr.cn rfl ?_ ?_ <;> intro h1 q1
 have hij : i < j := of_decide_eq_true h1
 refine Tr.skip (Fin.go (Tr.block (Tr.seq (Tr.regX mixed [none, none, none, none, none, none, none, some (0, 0, false, 0), none, none, none, some (0, 0, false, 0), none, some (0, 0, true, 0), none, some (0, 0, true, 0)] (by kernel_rfl) ?_))))
 iterate 6 refine xm rfl ?_
 refine xo rfl (fun _ => okp_indexSl rfl Tryz.underlying31 sz26 (vl rfl) (vl rfl) (by omega) (by omega)) (xrd 0 rfl rfl (rd_loadA rfl agg26 sz26 (vl rfl) (cells_atG (f := rowF) (fun _ => rfl) (by omega)) rfl) (xm rfl (xm rfl (xo rfl (fun _ => okp_indexSl rfl Tryz.underlying31 sz26 (vl rfl) (vl rfl) (by omega) (by omega)) (xrd 0 rfl rfl (rd_loadA rfl agg26 sz26 (vl rfl) (cells_atG (f := rowF) (fun _ => rfl) (by omega)) rfl) (xo rfl (fun _ => okp_indexSl rfl Tryz.underlying31 sz26 (vl rfl) (vl rfl) (by omega) (by omega)) ?_))))))
 refine Cx.ef0 0 rfl rfl (ef_store rfl rfl (vl rfl) (VL.le (vl rfl) (agg_cellsP _)) sz26 rfl (by rw [cells_len (sz := 11) (fun _ => rfl)]; omega) (cells_setG (f := rowF) (fun _ => rfl) (by omega))) ?_
 refine xo rfl (fun _ => okp_indexSl rfl Tryz.underlying31 sz26 (vl rfl) (vl rfl) (by omega) (by omega)) ?_
 refine Cx.ef0 0 rfl rfl (ef_store rfl rfl (vl rfl) (VL.le (vl rfl) (agg_cellsP _)) sz26 rfl (by rw [cells_len (sz := 11) (fun _ => rfl)]; simp only [List.length_set]; omega) (cells_setG (f := rowF) (fun _ => rfl) (by simp only [List.length_set]; omega))) ?_
 refine Cx.nil ⟨rfl, ?_⟩
 refine FinX.done (AllC.cons (AllC.cons (AllC.map _))) (Fin.go (wk3 0 8 9 rfl (Tr.seq (Tr.reg0 (cm rfl (cad rfl rfl rfl rfl (by omega) (cm rfl (Ch.nil (Fin.go (Tr.reg0 (cm rfl (csu rfl rfl rfl rfl (by omega) (cm rfl ?_)))))))))))))
 refine Ch.nil (Fin.block ?_)
 exact Fin.famD3V0 (i + 1) (j - 1) (_)  (⟨⟨⟨by omega, by omega, by omega, by omega⟩, by simp only [List.length_set]; exact hsl, hso.swap (by omega) (by omega) (by omega) (by omega) (by omega) (by omega) (by omega)⟩, by omega⟩) ⟨ke rfl, ke rfl, ke rfl, trivial⟩ (fun _ _ h => h)
 have := h1
 refine Tr.exit (Fin.then_exit (Fin.then_exit (Fin.block_here (Fin.closeL (PermL a b l) 0 rfl (hso) (Fin.retM0 rfl)))))
set_option maxRecDepth 20000 in
theorem w_speqG {l : List Fnd} {c : Fnd × Fnd → Int} {b0 cap len : Nat} {sp : List Value} {a b pv : Int} (hln : l.length = len) (hll : len ≤ 1000000) (h0 : 0 ≤ a) (hab : a < b) (hb : b ≤ len) (hp1 : a ≤ pv) (hp2 : pv < b) : FunM Tryz.prog 196 [is (.slice (some ⟨b0, 0, none⟩) len cap), int a, int b, int pv, clo Tryz.prog (fun x : Fnd × Fnd => [agg (rowF x.1), agg (rowF x.2)]) (fun x => int (c x))] (int ((PE c a b pv l).1 : Nat)) (cellsRes true b0 26 ((l.map rowF).flatten ++ sp.map is)) (fun _ => relRes b0 26 rowF (PartE c a b pv l) (sp.map is)) := by
 refine FunM.of Tryz.func196 rfl rfl (by exact Nat.le_of_ble_eq_true rfl) fun M0 w0 S rs M1 w1 => ?_
 have hal : a.toNat < l.length := by omega
 have hpv : pv.toNat < l.length := by omega
 refine Tr.seq (Tr.reg0 (cm rfl (Ch.nil (Fin.go (Tr.seq (Tr.regX mixed [none, none, none, none, none, none, none, some (0, 0, false, 0), none, none, none, some (0, 0, false, 0), none, some (0, 0, true, 0), none, some (0, 0, true, 0)] (by kernel_rfl) ?_))))))
 iterate 6 refine xm rfl ?_
 refine xo rfl (fun _ => okp_indexSl rfl Tryz.underlying31 sz26 (vl rfl) (vl rfl) (by omega) (by omega)) (xrd 0 rfl rfl (rd_loadA rfl agg26 sz26 (vl rfl) (cells_atG (f := rowF) (fun _ => rfl) (by omega)) rfl) (xm rfl (xm rfl (xo rfl (fun _ => okp_indexSl rfl Tryz.underlying31 sz26 (vl rfl) (vl rfl) (by omega) (by omega)) (xrd 0 rfl rfl (rd_loadA rfl agg26 sz26 (vl rfl) (cells_atG (f := rowF) (fun _ => rfl) (by omega)) rfl) (xo rfl (fun _ => okp_indexSl rfl Tryz.underlying31 sz26 (vl rfl) (vl rfl) (by omega) (by omega)) ?_))))))
 refine Cx.ef0 0 rfl rfl (ef_store rfl rfl (vl rfl) (VL.le (vl rfl) (agg_cellsP _)) sz26 rfl (by rw [cells_len (sz := 11) (fun _ => rfl)]; omega) (cells_setG (f := rowF) (fun _ => rfl) (by omega))) ?_
 refine xo rfl (fun _ => okp_indexSl rfl Tryz.underlying31 sz26 (vl rfl) (vl rfl) (by omega) (by omega)) ?_
 refine Cx.ef0 0 rfl rfl (ef_store rfl rfl (vl rfl) (VL.le (vl rfl) (agg_cellsP _)) sz26 rfl (by rw [cells_len (sz := 11) (fun _ => rfl)]; simp only [List.length_set]; omega) (cells_setG (f := rowF) (fun _ => rfl) (by simp only [List.length_set]; omega))) ?_
 refine Cx.nil ⟨rfl, ?_⟩
 refine FinX.done (AllC.cons (AllC.cons (AllC.map _))) (Fin.go (wk4 0 1 2 4 rfl (Tr.seq (Tr.reg0 (cm rfl (cad rfl rfl rfl rfl (by omega) (cm rfl (csu rfl rfl rfl rfl (by omega) (cm rfl (cm rfl (Ch.nil (Fin.go (Tr.seq (Tr.block ?_))))))))))))))
 refine Tr.loopD3V0 [(0, _), (1, _), (4, _)] ⟨ke rfl, ke rfl, ke rfl, trivial⟩ (fun (i : Int) (j : Int) (st : List Fnd) => [(11, int i), (12, int j)]) (fun (i : Int) (j : Int) (st : List Fnd) => Hp M0 w0 S (cellsRes true b0 26 ((st.map rowF).flatten ++ sp.map is) :: extRes M1 w1 :: rs)) (fun (i : Int) (j : Int) (st : List Fnd) => ((a < i ∧ i ≤ b) ∧ a ≤ j ∧ j < b) ∧ st.length = len ∧ PLe c a i j st.toArray = PE c a b pv l) (fun (i : Int) (j : Int) (st : List Fnd) => (j - i + 2).toNat) (a + 1) (b - 1) (((l.set a.toNat (l[pv.toNat]'hpv)).set pv.toNat (l[a.toNat]'hal)))  (⟨⟨⟨by omega, by omega⟩, by omega, by omega⟩, by simp only [List.length_set]; exact hln, pe_start h0 hab hal hpv⟩) ⟨ke rfl, ke rfl, trivial⟩ (fun _ _ h => h) ?_
 rintro i j st  ⟨⟨⟨hi1, hi2⟩, hj1, hj2⟩, hsl, hso⟩
 refine Tr.block (wk5 0 1 4 11 12 rfl (Tr.cutk [0, 1, 4, 12] [(11, ex fun y : Int => fact ((i ≤ y ∧ y ≤ b) ∧ True ∧ y.toNat = Go.Sort.scanUp (qU c st.toArray a) st.toArray (j).toNat (i).toNat) (int y))] (True) ?_ (fun h1 => ?_)))
 refine Tr.block (Tr.loopw [(0, _), (1, _), (4, _), (12, _)] (kk4 rfl) (fun y : Int => [(11, int y)]) (fun y : Int => (i ≤ y ∧ y ≤ b) ∧ Go.Sort.scanUp (qU c st.toArray a) st.toArray (j).toNat (y).toNat = Go.Sort.scanUp (qU c st.toArray a) st.toArray (j).toNat (i).toNat) (fun y : Int => (b - y).toNat) i (⟨⟨by omega, by omega⟩, rfl⟩) ⟨ke rfl, trivial⟩ ?_)
 rintro y ⟨⟨hscAa, hscAb⟩, hscAc⟩
 refine Tr.seq (Tr.seq (Tr.reg1 mixed (by kernel_rfl) (cm rfl (cm rfl (co rfl (ki rfl rfl rfl rfl) (cm rfl ?_))))))
 refine Ch.cs 34 rfl ?_ ?_ <;> intro h2 q2
 refine cym h2 rfl (cym h2 rfl (cym h2 rfl (cy h2 rfl (okp_indexSl rfl Tryz.underlying31 sz26 (vl rfl) (vl rfl) (by omega) (by omega)) (cy h2 rfl (ok_rd 0 rfl (rd_loadA rfl agg26 sz26 (vl rfl) (cells_atG (f := rowF) (fun _ => rfl) (by omega)) rfl)) (cym h2 rfl (cym h2 rfl (cy h2 rfl (okp_indexSl rfl Tryz.underlying31 sz26 (vl rfl) (vl rfl) (by omega) (by omega)) (cy h2 rfl (ok_rd 0 rfl (rd_loadA rfl agg26 sz26 (vl rfl) (cells_atG (f := rowF) (fun _ => rfl) (by omega)) rfl)) (cy h2 rfl (ok_callc (_, _) rfl (vl rfl) ⟨ke rfl, ke rfl, trivial⟩) (cy h2 rfl (ki rfl rfl rfl rfl) (cy h2 rfl (ok_not rfl (vl rfl)) (co rfl (kpt rfl rfl h2 rfl) (Ch.nil (Fin.go ?_))))))))))))))
 refine wk6 0 1 4 11 12 47 rfl ?_
 refine Tr.cn rfl ?_ ?_ <;> intro h3 q3
 have := h3
 refine Tr.skip (Fin.go (Tr.block (Tr.reg0 (cm rfl (cad rfl rfl rfl rfl (by omega) (cm rfl (Ch.nil (Fin.block ?_))))))))
 exact Fin.fam_same (y + 1) ⟨⟨⟨by omega, by omega⟩, by rw [su_go (by omega) (by omega) (by omega) (qU_t (by omega) (by omega) (Int.not_lt.2 (by assumption)))]; exact hscAc⟩, by omega⟩ (kk5 rfl)
 have := h3
 refine Tr.exit (Fin.then_exit (Fin.then_exit (Fin.block_here ?_)))
 exact Fin.fam_same () trivial ⟨⟨_, rfl, ex_in _ (fact_in ⟨⟨by omega, by omega⟩, trivial, by rw [← hscAc]; exact (su_stopB (by omega) (qU_f (by omega) (by omega) (by assumption))).symm⟩ (Pr.le_refl _))⟩, ke rfl, ke rfl, ke rfl, ke rfl, trivial⟩
 iterate 12 refine cnt h2 rfl ?_
 refine co rfl (kpf rfl rfl h2 rfl) (Ch.nil (Fin.go (wk6 0 1 4 11 12 47 rfl (Tr.cond rfl (fun h => nomatch h) (fun _ => ?_)))))
 refine Tr.exit (Fin.then_exit (Fin.then_exit (Fin.block_here ?_)))
 exact Fin.fam_same () trivial ⟨⟨_, rfl, ex_in _ (fact_in ⟨⟨by omega, by omega⟩, trivial, by rw [← hscAc]; exact (su_stopA (by omega) (by omega)).symm⟩ (Pr.le_refl _))⟩, ke rfl, ke rfl, ke rfl, ke rfl, trivial⟩
 refine Tr.ex 11 rfl (fun i2 => Tr.fact 11 rfl fun hci2 => ?_)
 obtain ⟨hci2a, hci2b, hci2c⟩ := hci2
 refine wk5 0 1 4 11 12 rfl (Tr.cutk [0, 1, 4, 11] [(12, ex fun y : Int => fact ((a ≤ y ∧ y ≤ j) ∧ True ∧ y.toNat = Go.Sort.scanDown (qD c st.toArray a) st.toArray (i2).toNat (j).toNat) (int y))] (True) ?_ (fun h4 => ?_))
 refine Tr.block (Tr.loopw [(0, _), (1, _), (4, _), (11, _)] (kk4 rfl) (fun y : Int => [(12, int y)]) (fun y : Int => (a ≤ y ∧ y ≤ j) ∧ Go.Sort.scanDown (qD c st.toArray a) st.toArray (i2).toNat (y).toNat = Go.Sort.scanDown (qD c st.toArray a) st.toArray (i2).toNat (j).toNat) (fun y : Int => (y - a).toNat) j (⟨⟨by omega, by omega⟩, rfl⟩) ⟨ke rfl, trivial⟩ ?_)
 rintro y ⟨⟨hscBa, hscBb⟩, hscBc⟩
 refine Tr.seq (Tr.seq (Tr.reg1 mixed (by kernel_rfl) (cm rfl (cm rfl (co rfl (ki rfl rfl rfl rfl) (cm rfl ?_))))))
 refine Ch.cs 53 rfl ?_ ?_ <;> intro h5 q5
 refine cym h5 rfl (cym h5 rfl (cym h5 rfl (cy h5 rfl (okp_indexSl rfl Tryz.underlying31 sz26 (vl rfl) (vl rfl) (by omega) (by omega)) (cy h5 rfl (ok_rd 0 rfl (rd_loadA rfl agg26 sz26 (vl rfl) (cells_atG (f := rowF) (fun _ => rfl) (by omega)) rfl)) (cym h5 rfl (cym h5 rfl (cy h5 rfl (okp_indexSl rfl Tryz.underlying31 sz26 (vl rfl) (vl rfl) (by omega) (by omega)) (cy h5 rfl (ok_rd 0 rfl (rd_loadA rfl agg26 sz26 (vl rfl) (cells_atG (f := rowF) (fun _ => rfl) (by omega)) rfl)) (cy h5 rfl (ok_callc (_, _) rfl (vl rfl) ⟨ke rfl, ke rfl, trivial⟩) (cy h5 rfl (ki rfl rfl rfl rfl) (co rfl (kpt rfl rfl h5 rfl) (Ch.nil (Fin.go ?_)))))))))))))
 refine wk6 0 1 4 11 12 65 rfl ?_
 refine Tr.cn rfl ?_ ?_ <;> intro h6 q6
 have := h6
 refine Tr.skip (Fin.go (Tr.block (Tr.reg0 (cm rfl (csu rfl rfl rfl rfl (by omega) (cm rfl (Ch.nil (Fin.block ?_))))))))
 exact Fin.fam_same (y - 1) ⟨⟨⟨by omega, by omega⟩, by rw [sd_go (by omega) (by omega) (by omega) (qD_t (by omega) (by omega) (by assumption))]; exact hscBc⟩, by omega⟩ (kk5 rfl)
 have := h6
 refine Tr.exit (Fin.then_exit (Fin.then_exit (Fin.block_here ?_)))
 exact Fin.fam_same () trivial ⟨⟨_, rfl, ex_in _ (fact_in ⟨⟨by omega, by omega⟩, trivial, by rw [← hscBc]; exact (sd_stopB (by omega) (qD_f (by omega) (by omega) (Int.not_lt.2 (by assumption)))).symm⟩ (Pr.le_refl _))⟩, ke rfl, ke rfl, ke rfl, ke rfl, trivial⟩
 iterate 11 refine cnt h5 rfl ?_
 refine co rfl (kpf rfl rfl h5 rfl) (Ch.nil (Fin.go (wk6 0 1 4 11 12 65 rfl (Tr.cond rfl (fun h => nomatch h) (fun _ => ?_)))))
 refine Tr.exit (Fin.then_exit (Fin.then_exit (Fin.block_here ?_)))
 exact Fin.fam_same () trivial ⟨⟨_, rfl, ex_in _ (fact_in ⟨⟨by omega, by omega⟩, trivial, by rw [← hscBc]; exact (sd_stopA (by omega) (by omega)).symm⟩ (Pr.le_refl _))⟩, ke rfl, ke rfl, ke rfl, ke rfl, trivial⟩
 refine Tr.ex 12 rfl (fun j2 => Tr.fact 12 rfl fun hcj2 => ?_)
 obtain ⟨hcj2a, hcj2b, hcj2c⟩ := hcj2
 refine Tr.seq (Tr.seq (Tr.reg0 (cm rfl (cm rfl (co rfl (ki rfl rfl rfl rfl) (Ch.nil (Fin.go ?_)))))))
 refine Tr.cn rfl ?_ ?_ <;> intro h7 q7
 refine Tr.exit (Fin.then_exit (Fin.block_on rfl (Fin.then_exit (Fin.block_here (Fin.go (Tr.seq (Tr.reg0 (cm rfl (cm rfl (Ch.nil (Fin.go (Tr.ret (Fin.closeL (PartE c a b pv l) 0 rfl (⟨by omega, by rw [hso.symm.trans (peq_stop hci2c hcj2c (by omega) (by omega))]⟩) ?_)))))))))))))
 have hE := hso.symm.trans (peq_stop hci2c hcj2c (by omega) (by omega))
 refine Fin.retM1 rfl rfl ?_ (fun _ _ _ _ => rfl)
 · exact int_eq (by rw [hE]; show i2 = ((i2.toNat : Nat) : Int); omega)
 refine Tr.skip (Fin.go (Tr.seq (Tr.regX mixed [none, none, none, none, none, none, none, some (0, 0, false, 0), none, none, none, some (0, 0, false, 0), none, some (0, 0, true, 0), none, some (0, 0, true, 0)] (by kernel_rfl) ?_)))
 iterate 6 refine xm rfl ?_
 refine xo rfl (fun _ => okp_indexSl rfl Tryz.underlying31 sz26 (vl rfl) (vl rfl) (by omega) (by omega)) (xrd 0 rfl rfl (rd_loadA rfl agg26 sz26 (vl rfl) (cells_atG (f := rowF) (fun _ => rfl) (by omega)) rfl) (xm rfl (xm rfl (xo rfl (fun _ => okp_indexSl rfl Tryz.underlying31 sz26 (vl rfl) (vl rfl) (by omega) (by omega)) (xrd 0 rfl rfl (rd_loadA rfl agg26 sz26 (vl rfl) (cells_atG (f := rowF) (fun _ => rfl) (by omega)) rfl) (xo rfl (fun _ => okp_indexSl rfl Tryz.underlying31 sz26 (vl rfl) (vl rfl) (by omega) (by omega)) ?_))))))
 refine Cx.ef0 0 rfl rfl (ef_store rfl rfl (vl rfl) (VL.le (vl rfl) (agg_cellsP _)) sz26 rfl (by rw [cells_len (sz := 11) (fun _ => rfl)]; omega) (cells_setG (f := rowF) (fun _ => rfl) (by omega))) ?_
 refine xo rfl (fun _ => okp_indexSl rfl Tryz.underlying31 sz26 (vl rfl) (vl rfl) (by omega) (by omega)) ?_
 refine Cx.ef0 0 rfl rfl (ef_store rfl rfl (vl rfl) (VL.le (vl rfl) (agg_cellsP _)) sz26 rfl (by rw [cells_len (sz := 11) (fun _ => rfl)]; simp only [List.length_set]; omega) (cells_setG (f := rowF) (fun _ => rfl) (by simp only [List.length_set]; omega))) ?_
 refine Cx.nil ⟨rfl, ?_⟩
 refine FinX.done (AllC.cons (AllC.cons (AllC.map _))) (Fin.go (wk5 0 1 4 11 12 rfl (Tr.seq (Tr.reg0 (cm rfl (cad rfl rfl rfl rfl (by omega) (cm rfl (Ch.nil (Fin.go (Tr.reg0 (cm rfl (csu rfl rfl rfl rfl (by omega) (cm rfl ?_)))))))))))))
 refine Ch.nil (Fin.block ?_)
 exact Fin.famD3V0 (i2 + 1) (j2 - 1) (_)  (⟨⟨⟨⟨by omega, by omega⟩, by omega, by omega⟩, by simp only [List.length_set]; exact hsl, (peq_go hci2c hcj2c (by omega) (by omega) (by omega) (by omega)).trans hso⟩, by omega⟩) ⟨ke rfl, ke rfl, ke rfl, ke rfl, ke rfl, trivial⟩ (fun _ _ h => h)
set_option maxRecDepth 20000 in
set_option maxHeartbeats 1000000 in
theorem w_spartG {l : List Fnd} {c : Fnd × Fnd → Int} {b0 cap len : Nat} {sp : List Value} {a b pv : Int} (hln : l.length = len) (hll : len ≤ 1000000) (h0 : 0 ≤ a) (hab : a < b) (hb : b ≤ len) (hp1 : a ≤ pv) (hp2 : pv < b) : FunM Tryz.prog 197 [is (.slice (some ⟨b0, 0, none⟩) len cap), int a, int b, int pv, clo Tryz.prog (fun x : Fnd × Fnd => [agg (rowF x.1), agg (rowF x.2)]) (fun x => int (c x))] (ex fun z : Bool => fact True (tup [int ((PA c a b pv l).1 : Nat), bool z])) (cellsRes true b0 26 ((l.map rowF).flatten ++ sp.map is)) (fun _ => relRes b0 26 rowF (PartL c a b pv l) (sp.map is)) := by
 refine FunM.of Tryz.func197 rfl rfl (by exact Nat.le_of_ble_eq_true rfl) fun M0 w0 S rs M1 w1 => ?_
 have hal : a.toNat < l.length := by omega
 have hpv : pv.toNat < l.length := by omega
 have hS1 : ((l.set a.toNat (l[pv.toNat]'hpv)).set pv.toNat (l[a.toNat]'hal)).length = len := by simp only [List.length_set]; exact hln
 refine Tr.seq (Tr.reg0 (cm rfl (cm rfl (Ch.nil (Fin.go (Tr.seq (Tr.regX mixed [none, none, none, none, none, none, none, some (0, 0, false, 0), none, none, none, some (0, 0, false, 0), none, some (0, 0, true, 0), none, some (0, 0, true, 0)] (by kernel_rfl) ?_)))))))
 iterate 6 refine xm rfl ?_
 refine xo rfl (fun _ => okp_indexSl rfl Tryz.underlying31 sz26 (vl rfl) (vl rfl) (by omega) (by omega)) (xrd 0 rfl rfl (rd_loadA rfl agg26 sz26 (vl rfl) (cells_atG (f := rowF) (fun _ => rfl) (by omega)) rfl) (xm rfl (xm rfl (xo rfl (fun _ => okp_indexSl rfl Tryz.underlying31 sz26 (vl rfl) (vl rfl) (by omega) (by omega)) (xrd 0 rfl rfl (rd_loadA rfl agg26 sz26 (vl rfl) (cells_atG (f := rowF) (fun _ => rfl) (by omega)) rfl) (xo rfl (fun _ => okp_indexSl rfl Tryz.underlying31 sz26 (vl rfl) (vl rfl) (by omega) (by omega)) ?_))))))
 refine Cx.ef0 0 rfl rfl (ef_store rfl rfl (vl rfl) (VL.le (vl rfl) (agg_cellsP _)) sz26 rfl (by rw [cells_len (sz := 11) (fun _ => rfl)]; omega) (cells_setG (f := rowF) (fun _ => rfl) (by omega))) ?_
 refine xo rfl (fun _ => okp_indexSl rfl Tryz.underlying31 sz26 (vl rfl) (vl rfl) (by omega) (by omega)) ?_
 refine Cx.ef0 0 rfl rfl (ef_store rfl rfl (vl rfl) (VL.le (vl rfl) (agg_cellsP _)) sz26 rfl (by rw [cells_len (sz := 11) (fun _ => rfl)]; simp only [List.length_set]; omega) (cells_setG (f := rowF) (fun _ => rfl) (by simp only [List.length_set]; omega))) ?_
 refine Cx.nil ⟨rfl, ?_⟩
 refine FinX.done (AllC.cons (AllC.cons (AllC.map _))) (Fin.go (wk4 0 1 2 4 rfl (Tr.seq (Tr.reg0 (cm rfl (cad rfl rfl rfl rfl (by omega) (cm rfl (csu rfl rfl rfl rfl (by omega) (cm rfl (cm rfl (Ch.nil (Fin.go (wk5 0 1 4 12 13 rfl (Tr.cutk [0, 1, 4, 13] [(12, ex fun y : Int => fact (((a + 1) ≤ y ∧ y ≤ b) ∧ True ∧ y.toNat = Go.Sort.scanUp (pU c ((l.set a.toNat (l[pv.toNat]'hpv)).set pv.toNat (l[a.toNat]'hal)).toArray a) ((l.set a.toNat (l[pv.toNat]'hpv)).set pv.toNat (l[a.toNat]'hal)).toArray ((b - 1)).toNat ((a + 1)).toNat) (int y))] (True) ?_ (fun h1 => ?_)))))))))))))))
 refine Tr.block (Tr.loopw [(0, _), (1, _), (4, _), (13, _)] (kk4 rfl) (fun y : Int => [(12, int y)]) (fun y : Int => ((a + 1) ≤ y ∧ y ≤ b) ∧ Go.Sort.scanUp (pU c ((l.set a.toNat (l[pv.toNat]'hpv)).set pv.toNat (l[a.toNat]'hal)).toArray a) ((l.set a.toNat (l[pv.toNat]'hpv)).set pv.toNat (l[a.toNat]'hal)).toArray ((b - 1)).toNat (y).toNat = Go.Sort.scanUp (pU c ((l.set a.toNat (l[pv.toNat]'hpv)).set pv.toNat (l[a.toNat]'hal)).toArray a) ((l.set a.toNat (l[pv.toNat]'hpv)).set pv.toNat (l[a.toNat]'hal)).toArray ((b - 1)).toNat ((a + 1)).toNat) (fun y : Int => (b - y).toNat) (a + 1) (⟨⟨by omega, by omega⟩, rfl⟩) ⟨ke rfl, trivial⟩ ?_)
 rintro y ⟨⟨hscAa, hscAb⟩, hscAc⟩
 refine Tr.seq (Tr.seq (Tr.reg1 mixed (by kernel_rfl) (cm rfl (cm rfl (co rfl (ki rfl rfl rfl rfl) (cm rfl ?_))))))
 refine Ch.cs 35 rfl ?_ ?_ <;> intro h2 q2
 refine cym h2 rfl (cym h2 rfl (cym h2 rfl (cy h2 rfl (okp_indexSl rfl Tryz.underlying31 sz26 (vl rfl) (vl rfl) (by omega) (by omega)) (cy h2 rfl (ok_rd 0 rfl (rd_loadA rfl agg26 sz26 (vl rfl) (cells_atG (f := rowF) (fun _ => rfl) (by omega)) rfl)) (cym h2 rfl (cym h2 rfl (cy h2 rfl (okp_indexSl rfl Tryz.underlying31 sz26 (vl rfl) (vl rfl) (by omega) (by omega)) (cy h2 rfl (ok_rd 0 rfl (rd_loadA rfl agg26 sz26 (vl rfl) (cells_atG (f := rowF) (fun _ => rfl) (by omega)) rfl)) (cy h2 rfl (ok_callc (_, _) rfl (vl rfl) ⟨ke rfl, ke rfl, trivial⟩) (cy h2 rfl (ki rfl rfl rfl rfl) (co rfl (kpt rfl rfl h2 rfl) (Ch.nil (Fin.go ?_)))))))))))))
 refine wk6 0 1 4 12 13 47 rfl ?_
 refine Tr.cn rfl ?_ ?_ <;> intro h3 q3
 have := h3
 refine Tr.skip (Fin.go (Tr.block (Tr.reg0 (cm rfl (cad rfl rfl rfl rfl (by omega) (cm rfl (Ch.nil (Fin.block ?_))))))))
 exact Fin.fam_same (y + 1) ⟨⟨⟨by omega, by omega⟩, by rw [su_go (by omega) (by omega) (by omega) (pU_t (by omega) (by omega) (by assumption))]; exact hscAc⟩, by omega⟩ (kk5 rfl)
 have := h3
 refine Tr.exit (Fin.then_exit (Fin.then_exit (Fin.block_here ?_)))
 exact Fin.fam_same () trivial ⟨⟨_, rfl, ex_in _ (fact_in ⟨⟨by omega, by omega⟩, trivial, by rw [← hscAc]; exact (su_stopB (by omega) (pU_f (by omega) (by omega) (Int.not_lt.2 (by assumption)))).symm⟩ (Pr.le_refl _))⟩, ke rfl, ke rfl, ke rfl, ke rfl, trivial⟩
 iterate 11 refine cnt h2 rfl ?_
 refine co rfl (kpf rfl rfl h2 rfl) (Ch.nil (Fin.go (wk6 0 1 4 12 13 47 rfl (Tr.cond rfl (fun h => nomatch h) (fun _ => ?_)))))
 refine Tr.exit (Fin.then_exit (Fin.then_exit (Fin.block_here ?_)))
 exact Fin.fam_same () trivial ⟨⟨_, rfl, ex_in _ (fact_in ⟨⟨by omega, by omega⟩, trivial, by rw [← hscAc]; exact (su_stopA (by omega) (by omega)).symm⟩ (Pr.le_refl _))⟩, ke rfl, ke rfl, ke rfl, ke rfl, trivial⟩
 refine Tr.ex 12 rfl (fun i1 => Tr.fact 12 rfl fun hci1 => ?_)
 obtain ⟨hci1a, hci1b, hci1c⟩ := hci1
 refine wk5 0 1 4 12 13 rfl (Tr.cutk [0, 1, 4, 12] [(13, ex fun y : Int => fact ((a ≤ y ∧ y ≤ (b - 1)) ∧ True ∧ y.toNat = Go.Sort.scanDown (pD c ((l.set a.toNat (l[pv.toNat]'hpv)).set pv.toNat (l[a.toNat]'hal)).toArray a) ((l.set a.toNat (l[pv.toNat]'hpv)).set pv.toNat (l[a.toNat]'hal)).toArray (i1).toNat ((b - 1)).toNat) (int y))] (True) ?_ (fun h4 => ?_))
 refine Tr.block (Tr.loopw [(0, _), (1, _), (4, _), (12, _)] (kk4 rfl) (fun y : Int => [(13, int y)]) (fun y : Int => (a ≤ y ∧ y ≤ (b - 1)) ∧ Go.Sort.scanDown (pD c ((l.set a.toNat (l[pv.toNat]'hpv)).set pv.toNat (l[a.toNat]'hal)).toArray a) ((l.set a.toNat (l[pv.toNat]'hpv)).set pv.toNat (l[a.toNat]'hal)).toArray (i1).toNat (y).toNat = Go.Sort.scanDown (pD c ((l.set a.toNat (l[pv.toNat]'hpv)).set pv.toNat (l[a.toNat]'hal)).toArray a) ((l.set a.toNat (l[pv.toNat]'hpv)).set pv.toNat (l[a.toNat]'hal)).toArray (i1).toNat ((b - 1)).toNat) (fun y : Int => (y - a).toNat) (b - 1) (⟨⟨by omega, by omega⟩, rfl⟩) ⟨ke rfl, trivial⟩ ?_)
 rintro y ⟨⟨hscBa, hscBb⟩, hscBc⟩
 refine Tr.seq (Tr.seq (Tr.reg1 mixed (by kernel_rfl) (cm rfl (cm rfl (co rfl (ki rfl rfl rfl rfl) (cm rfl ?_))))))
 refine Ch.cs 53 rfl ?_ ?_ <;> intro h5 q5
 refine cym h5 rfl (cym h5 rfl (cym h5 rfl (cy h5 rfl (okp_indexSl rfl Tryz.underlying31 sz26 (vl rfl) (vl rfl) (by omega) (by omega)) (cy h5 rfl (ok_rd 0 rfl (rd_loadA rfl agg26 sz26 (vl rfl) (cells_atG (f := rowF) (fun _ => rfl) (by omega)) rfl)) (cym h5 rfl (cym h5 rfl (cy h5 rfl (okp_indexSl rfl Tryz.underlying31 sz26 (vl rfl) (vl rfl) (by omega) (by omega)) (cy h5 rfl (ok_rd 0 rfl (rd_loadA rfl agg26 sz26 (vl rfl) (cells_atG (f := rowF) (fun _ => rfl) (by omega)) rfl)) (cy h5 rfl (ok_callc (_, _) rfl (vl rfl) ⟨ke rfl, ke rfl, trivial⟩) (cy h5 rfl (ki rfl rfl rfl rfl) (cy h5 rfl (ok_not rfl (vl rfl)) (co rfl (kpt rfl rfl h5 rfl) (Ch.nil (Fin.go ?_))))))))))))))
 refine wk6 0 1 4 12 13 66 rfl ?_
 refine Tr.cn rfl ?_ ?_ <;> intro h6 q6
 have := h6
 refine Tr.skip (Fin.go (Tr.block (Tr.reg0 (cm rfl (csu rfl rfl rfl rfl (by omega) (cm rfl (Ch.nil (Fin.block ?_))))))))
 exact Fin.fam_same (y - 1) ⟨⟨⟨by omega, by omega⟩, by rw [sd_go (by omega) (by omega) (by omega) (pD_t (by omega) (by omega) (Int.not_lt.2 (by assumption)))]; exact hscBc⟩, by omega⟩ (kk5 rfl)
 have := h6
 refine Tr.exit (Fin.then_exit (Fin.then_exit (Fin.block_here ?_)))
 exact Fin.fam_same () trivial ⟨⟨_, rfl, ex_in _ (fact_in ⟨⟨by omega, by omega⟩, trivial, by rw [← hscBc]; exact (sd_stopB (by omega) (pD_f (by omega) (by omega) (by assumption))).symm⟩ (Pr.le_refl _))⟩, ke rfl, ke rfl, ke rfl, ke rfl, trivial⟩
 iterate 12 refine cnt h5 rfl ?_
 refine co rfl (kpf rfl rfl h5 rfl) (Ch.nil (Fin.go (wk6 0 1 4 12 13 66 rfl (Tr.cond rfl (fun h => nomatch h) (fun _ => ?_)))))
 refine Tr.exit (Fin.then_exit (Fin.then_exit (Fin.block_here ?_)))
 exact Fin.fam_same () trivial ⟨⟨_, rfl, ex_in _ (fact_in ⟨⟨by omega, by omega⟩, trivial, by rw [← hscBc]; exact (sd_stopA (by omega) (by omega)).symm⟩ (Pr.le_refl _))⟩, ke rfl, ke rfl, ke rfl, ke rfl, trivial⟩
 refine Tr.ex 13 rfl (fun j1 => Tr.fact 13 rfl fun hcj1 => ?_)
 obtain ⟨hcj1a, hcj1b, hcj1c⟩ := hcj1
 refine Tr.seq (Tr.seq (Tr.reg0 (cm rfl (cm rfl (co rfl (ki rfl rfl rfl rfl) (Ch.nil (Fin.go ?_)))))))
 refine Tr.cn rfl ?_ ?_ <;> intro h7 q7
 refine Tr.seq (Tr.regX mixed [none, none, none, none, none, none, none, some (0, 0, false, 0), none, none, none, some (0, 0, false, 0), none, some (0, 0, true, 0), none, some (0, 0, true, 0)] (by kernel_rfl) ?_)
 iterate 6 refine xm rfl ?_
 refine xo rfl (fun _ => okp_indexSl rfl Tryz.underlying31 sz26 (vl rfl) (vl rfl) (by omega) (by omega)) (xrd 0 rfl rfl (rd_loadA rfl agg26 sz26 (vl rfl) (cells_atG (f := rowF) (fun _ => rfl) (by omega)) rfl) (xm rfl (xm rfl (xo rfl (fun _ => okp_indexSl rfl Tryz.underlying31 sz26 (vl rfl) (vl rfl) (by omega) (by omega)) (xrd 0 rfl rfl (rd_loadA rfl agg26 sz26 (vl rfl) (cells_atG (f := rowF) (fun _ => rfl) (by omega)) rfl) (xo rfl (fun _ => okp_indexSl rfl Tryz.underlying31 sz26 (vl rfl) (vl rfl) (by omega) (by omega)) ?_))))))
 refine Cx.ef0 0 rfl rfl (ef_store rfl rfl (vl rfl) (VL.le (vl rfl) (agg_cellsP _)) sz26 rfl (by rw [cells_len (sz := 11) (fun _ => rfl)]; omega) (cells_setG (f := rowF) (fun _ => rfl) (by omega))) ?_
 refine xo rfl (fun _ => okp_indexSl rfl Tryz.underlying31 sz26 (vl rfl) (vl rfl) (by omega) (by omega)) ?_
 refine Cx.ef0 0 rfl rfl (ef_store rfl rfl (vl rfl) (VL.le (vl rfl) (agg_cellsP _)) sz26 rfl (by rw [cells_len (sz := 11) (fun _ => rfl)]; simp only [List.length_set]; omega) (cells_setG (f := rowF) (fun _ => rfl) (by simp only [List.length_set]; omega))) ?_
 refine Cx.nil ⟨rfl, ?_⟩
 refine FinX.done (AllC.cons (AllC.cons (AllC.map _))) (Fin.go (wk1 13 rfl (Tr.seq (Tr.reg0 (cm rfl (cm rfl (cm rfl (Ch.nil (Fin.go (Tr.ret (Fin.then_ret (Fin.closeL (PartL c a b pv l) 0 rfl (⟨by simp only [List.length_set], (pa_start h0 hab hal hpv (part_stop hci1c hcj1c (by omega) (by omega)) (by omega) (by omega)).2⟩) (Fin.retY2 [] rfl (RVal.tmp rfl (Pr.le_refl _)) (RVal.tmp rfl (Pr.le_refl _)) ?_)))))))))))))
 · exact ex_in true (fact_in trivial (Pr.le_of_eq (by rw [(pa_start h0 hab hal hpv (part_stop hci1c hcj1c (by omega) (by omega)) (by omega) (by omega)).1, Int.toNat_of_nonneg (by omega)])))
 refine Tr.skip (Fin.go (Tr.seq (Tr.regX mixed [none, none, none, none, none, none, none, some (0, 0, false, 0), none, none, none, some (0, 0, false, 0), none, some (0, 0, true, 0), none, some (0, 0, true, 0)] (by kernel_rfl) ?_)))
 iterate 6 refine xm rfl ?_
 refine xo rfl (fun _ => okp_indexSl rfl Tryz.underlying31 sz26 (vl rfl) (vl rfl) (by omega) (by omega)) (xrd 0 rfl rfl (rd_loadA rfl agg26 sz26 (vl rfl) (cells_atG (f := rowF) (fun _ => rfl) (by omega)) rfl) (xm rfl (xm rfl (xo rfl (fun _ => okp_indexSl rfl Tryz.underlying31 sz26 (vl rfl) (vl rfl) (by omega) (by omega)) (xrd 0 rfl rfl (rd_loadA rfl agg26 sz26 (vl rfl) (cells_atG (f := rowF) (fun _ => rfl) (by omega)) rfl) (xo rfl (fun _ => okp_indexSl rfl Tryz.underlying31 sz26 (vl rfl) (vl rfl) (by omega) (by omega)) ?_))))))
 refine Cx.ef0 0 rfl rfl (ef_store rfl rfl (vl rfl) (VL.le (vl rfl) (agg_cellsP _)) sz26 rfl (by rw [cells_len (sz := 11) (fun _ => rfl)]; omega) (cells_setG (f := rowF) (fun _ => rfl) (by omega))) ?_
 refine xo rfl (fun _ => okp_indexSl rfl Tryz.underlying31 sz26 (vl rfl) (vl rfl) (by omega) (by omega)) ?_
 refine Cx.ef0 0 rfl rfl (ef_store rfl rfl (vl rfl) (VL.le (vl rfl) (agg_cellsP _)) sz26 rfl (by rw [cells_len (sz := 11) (fun _ => rfl)]; simp only [List.length_set]; omega) (cells_setG (f := rowF) (fun _ => rfl) (by simp only [List.length_set]; omega))) ?_
 refine Cx.nil ⟨rfl, ?_⟩
 refine FinX.done (AllC.cons (AllC.cons (AllC.map _))) (Fin.go (wk5 0 1 4 12 13 rfl (Tr.seq (Tr.reg0 (cm rfl (cad rfl rfl rfl rfl (by omega) (cm rfl (Ch.nil (Fin.go (Tr.seq (Tr.reg0 (cm rfl (csu rfl rfl rfl rfl (by omega) ?_)))))))))))))
 refine cm rfl (Ch.nil (Fin.go (Tr.seq (Tr.block ?_))))
 refine Tr.loopD3V0 [(0, _), (1, _), (4, _)] ⟨ke rfl, ke rfl, ke rfl, trivial⟩ (fun (i : Int) (j : Int) (st : List Fnd) => [(12, int i), (13, int j)]) (fun (i : Int) (j : Int) (st : List Fnd) => Hp M0 w0 S (cellsRes true b0 26 ((st.map rowF).flatten ++ sp.map is) :: extRes M1 w1 :: rs)) (fun (i : Int) (j : Int) (st : List Fnd) => ((a < i ∧ i ≤ b) ∧ a ≤ j ∧ j < b) ∧ st.length = len ∧ PLp c a i j st.toArray = PLp c a (a + 1) (b - 1) ((l.set a.toNat (l[pv.toNat]'hpv)).set pv.toNat (l[a.toNat]'hal)).toArray) (fun (i : Int) (j : Int) (st : List Fnd) => (j - i + 2).toNat) (i1 + 1) (j1 - 1) (_)  (⟨⟨⟨by omega, by omega⟩, by omega, by omega⟩, by simp only [List.length_set]; exact hln, part_go hci1c hcj1c (by omega) (by omega) (by omega) (by omega)⟩) ⟨ke rfl, ke rfl, trivial⟩ (fun _ _ h => h) ?_
 rintro i j st  ⟨⟨⟨hi1, hi2⟩, hj1, hj2⟩, hsl, hso⟩
 refine Tr.block (wk5 0 1 4 12 13 rfl (Tr.cutk [0, 1, 4, 13] [(12, ex fun y : Int => fact ((i ≤ y ∧ y ≤ b) ∧ True ∧ y.toNat = Go.Sort.scanUp (pU c st.toArray a) st.toArray (j).toNat (i).toNat) (int y))] (True) ?_ (fun h8 => ?_)))
 refine Tr.block (Tr.loopw [(0, _), (1, _), (4, _), (13, _)] (kk4 rfl) (fun y : Int => [(12, int y)]) (fun y : Int => (i ≤ y ∧ y ≤ b) ∧ Go.Sort.scanUp (pU c st.toArray a) st.toArray (j).toNat (y).toNat = Go.Sort.scanUp (pU c st.toArray a) st.toArray (j).toNat (i).toNat) (fun y : Int => (b - y).toNat) i (⟨⟨by omega, by omega⟩, rfl⟩) ⟨ke rfl, trivial⟩ ?_)
 rintro y ⟨⟨hscAa, hscAb⟩, hscAc⟩
 refine Tr.seq (Tr.seq (Tr.reg1 mixed (by kernel_rfl) (cm rfl (cm rfl (co rfl (ki rfl rfl rfl rfl) (cm rfl ?_))))))
 refine Ch.cs 108 rfl ?_ ?_ <;> intro h9 q9
 refine cym h9 rfl (cym h9 rfl (cym h9 rfl (cy h9 rfl (okp_indexSl rfl Tryz.underlying31 sz26 (vl rfl) (vl rfl) (by omega) (by omega)) (cy h9 rfl (ok_rd 0 rfl (rd_loadA rfl agg26 sz26 (vl rfl) (cells_atG (f := rowF) (fun _ => rfl) (by omega)) rfl)) (cym h9 rfl (cym h9 rfl (cy h9 rfl (okp_indexSl rfl Tryz.underlying31 sz26 (vl rfl) (vl rfl) (by omega) (by omega)) (cy h9 rfl (ok_rd 0 rfl (rd_loadA rfl agg26 sz26 (vl rfl) (cells_atG (f := rowF) (fun _ => rfl) (by omega)) rfl)) (cy h9 rfl (ok_callc (_, _) rfl (vl rfl) ⟨ke rfl, ke rfl, trivial⟩) (cy h9 rfl (ki rfl rfl rfl rfl) (co rfl (kpt rfl rfl h9 rfl) (Ch.nil (Fin.go ?_)))))))))))))
 refine wk6 0 1 4 12 13 120 rfl ?_
 refine Tr.cn rfl ?_ ?_ <;> intro h10 q10
 have := h10
 refine Tr.skip (Fin.go (Tr.block (Tr.reg0 (cm rfl (cad rfl rfl rfl rfl (by omega) (cm rfl (Ch.nil (Fin.block ?_))))))))
 exact Fin.fam_same (y + 1) ⟨⟨⟨by omega, by omega⟩, by rw [su_go (by omega) (by omega) (by omega) (pU_t (by omega) (by omega) (by assumption))]; exact hscAc⟩, by omega⟩ (kk5 rfl)
 have := h10
 refine Tr.exit (Fin.then_exit (Fin.then_exit (Fin.block_here ?_)))
 exact Fin.fam_same () trivial ⟨⟨_, rfl, ex_in _ (fact_in ⟨⟨by omega, by omega⟩, trivial, by rw [← hscAc]; exact (su_stopB (by omega) (pU_f (by omega) (by omega) (Int.not_lt.2 (by assumption)))).symm⟩ (Pr.le_refl _))⟩, ke rfl, ke rfl, ke rfl, ke rfl, trivial⟩
 iterate 11 refine cnt h9 rfl ?_
 refine co rfl (kpf rfl rfl h9 rfl) (Ch.nil (Fin.go (wk6 0 1 4 12 13 120 rfl (Tr.cond rfl (fun h => nomatch h) (fun _ => ?_)))))
 refine Tr.exit (Fin.then_exit (Fin.then_exit (Fin.block_here ?_)))
 exact Fin.fam_same () trivial ⟨⟨_, rfl, ex_in _ (fact_in ⟨⟨by omega, by omega⟩, trivial, by rw [← hscAc]; exact (su_stopA (by omega) (by omega)).symm⟩ (Pr.le_refl _))⟩, ke rfl, ke rfl, ke rfl, ke rfl, trivial⟩
 refine Tr.ex 12 rfl (fun i2 => Tr.fact 12 rfl fun hci2 => ?_)
 obtain ⟨hci2a, hci2b, hci2c⟩ := hci2
 refine wk5 0 1 4 12 13 rfl (Tr.cutk [0, 1, 4, 12] [(13, ex fun y : Int => fact ((a ≤ y ∧ y ≤ j) ∧ True ∧ y.toNat = Go.Sort.scanDown (pD c st.toArray a) st.toArray (i2).toNat (j).toNat) (int y))] (True) ?_ (fun h11 => ?_))
 refine Tr.block (Tr.loopw [(0, _), (1, _), (4, _), (12, _)] (kk4 rfl) (fun y : Int => [(13, int y)]) (fun y : Int => (a ≤ y ∧ y ≤ j) ∧ Go.Sort.scanDown (pD c st.toArray a) st.toArray (i2).toNat (y).toNat = Go.Sort.scanDown (pD c st.toArray a) st.toArray (i2).toNat (j).toNat) (fun y : Int => (y - a).toNat) j (⟨⟨by omega, by omega⟩, rfl⟩) ⟨ke rfl, trivial⟩ ?_)
 rintro y ⟨⟨hscBa, hscBb⟩, hscBc⟩
 refine Tr.seq (Tr.seq (Tr.reg1 mixed (by kernel_rfl) (cm rfl (cm rfl (co rfl (ki rfl rfl rfl rfl) (cm rfl ?_))))))
 refine Ch.cs 126 rfl ?_ ?_ <;> intro h12 q12
 refine cym h12 rfl (cym h12 rfl (cym h12 rfl (cy h12 rfl (okp_indexSl rfl Tryz.underlying31 sz26 (vl rfl) (vl rfl) (by omega) (by omega)) (cy h12 rfl (ok_rd 0 rfl (rd_loadA rfl agg26 sz26 (vl rfl) (cells_atG (f := rowF) (fun _ => rfl) (by omega)) rfl)) (cym h12 rfl (cym h12 rfl (cy h12 rfl (okp_indexSl rfl Tryz.underlying31 sz26 (vl rfl) (vl rfl) (by omega) (by omega)) (cy h12 rfl (ok_rd 0 rfl (rd_loadA rfl agg26 sz26 (vl rfl) (cells_atG (f := rowF) (fun _ => rfl) (by omega)) rfl)) (cy h12 rfl (ok_callc (_, _) rfl (vl rfl) ⟨ke rfl, ke rfl, trivial⟩) (cy h12 rfl (ki rfl rfl rfl rfl) (cy h12 rfl (ok_not rfl (vl rfl)) (co rfl (kpt rfl rfl h12 rfl) (Ch.nil (Fin.go ?_))))))))))))))
 refine wk6 0 1 4 12 13 139 rfl ?_
 refine Tr.cn rfl ?_ ?_ <;> intro h13 q13
 have := h13
 refine Tr.skip (Fin.go (Tr.block (Tr.reg0 (cm rfl (csu rfl rfl rfl rfl (by omega) (cm rfl (Ch.nil (Fin.block ?_))))))))
 exact Fin.fam_same (y - 1) ⟨⟨⟨by omega, by omega⟩, by rw [sd_go (by omega) (by omega) (by omega) (pD_t (by omega) (by omega) (Int.not_lt.2 (by assumption)))]; exact hscBc⟩, by omega⟩ (kk5 rfl)
 have := h13
 refine Tr.exit (Fin.then_exit (Fin.then_exit (Fin.block_here ?_)))
 exact Fin.fam_same () trivial ⟨⟨_, rfl, ex_in _ (fact_in ⟨⟨by omega, by omega⟩, trivial, by rw [← hscBc]; exact (sd_stopB (by omega) (pD_f (by omega) (by omega) (by assumption))).symm⟩ (Pr.le_refl _))⟩, ke rfl, ke rfl, ke rfl, ke rfl, trivial⟩
 iterate 12 refine cnt h12 rfl ?_
 refine co rfl (kpf rfl rfl h12 rfl) (Ch.nil (Fin.go (wk6 0 1 4 12 13 139 rfl (Tr.cond rfl (fun h => nomatch h) (fun _ => ?_)))))
 refine Tr.exit (Fin.then_exit (Fin.then_exit (Fin.block_here ?_)))
 exact Fin.fam_same () trivial ⟨⟨_, rfl, ex_in _ (fact_in ⟨⟨by omega, by omega⟩, trivial, by rw [← hscBc]; exact (sd_stopA (by omega) (by omega)).symm⟩ (Pr.le_refl _))⟩, ke rfl, ke rfl, ke rfl, ke rfl, trivial⟩
 refine Tr.ex 13 rfl (fun j2 => Tr.fact 13 rfl fun hcj2 => ?_)
 obtain ⟨hcj2a, hcj2b, hcj2c⟩ := hcj2
 refine Tr.seq (Tr.seq (Tr.reg0 (cm rfl (cm rfl (co rfl (ki rfl rfl rfl rfl) (Ch.nil (Fin.go ?_)))))))
 refine Tr.cn rfl ?_ ?_ <;> intro h14 q14
 refine Tr.exit (Fin.then_exit (Fin.block_on rfl (Fin.then_exit (Fin.block_here (Fin.go (Tr.seq (Tr.regX mixed [none, none, none, none, none, none, none, some (0, 0, false, 0), none, none, none, some (0, 0, false, 0), none, some (0, 0, true, 0), none, some (0, 0, true, 0)] (by kernel_rfl) ?_)))))))
 iterate 6 refine xm rfl ?_
 refine xo rfl (fun _ => okp_indexSl rfl Tryz.underlying31 sz26 (vl rfl) (vl rfl) (by omega) (by omega)) (xrd 0 rfl rfl (rd_loadA rfl agg26 sz26 (vl rfl) (cells_atG (f := rowF) (fun _ => rfl) (by omega)) rfl) (xm rfl (xm rfl (xo rfl (fun _ => okp_indexSl rfl Tryz.underlying31 sz26 (vl rfl) (vl rfl) (by omega) (by omega)) (xrd 0 rfl rfl (rd_loadA rfl agg26 sz26 (vl rfl) (cells_atG (f := rowF) (fun _ => rfl) (by omega)) rfl) (xo rfl (fun _ => okp_indexSl rfl Tryz.underlying31 sz26 (vl rfl) (vl rfl) (by omega) (by omega)) ?_))))))
 refine Cx.ef0 0 rfl rfl (ef_store rfl rfl (vl rfl) (VL.le (vl rfl) (agg_cellsP _)) sz26 rfl (by rw [cells_len (sz := 11) (fun _ => rfl)]; omega) (cells_setG (f := rowF) (fun _ => rfl) (by omega))) ?_
 refine xo rfl (fun _ => okp_indexSl rfl Tryz.underlying31 sz26 (vl rfl) (vl rfl) (by omega) (by omega)) ?_
 refine Cx.ef0 0 rfl rfl (ef_store rfl rfl (vl rfl) (VL.le (vl rfl) (agg_cellsP _)) sz26 rfl (by rw [cells_len (sz := 11) (fun _ => rfl)]; simp only [List.length_set]; omega) (cells_setG (f := rowF) (fun _ => rfl) (by simp only [List.length_set]; omega))) ?_
 refine Cx.nil ⟨rfl, ?_⟩
 refine FinX.done (AllC.cons (AllC.cons (AllC.map _))) (Fin.go (wk1 13 rfl (Tr.seq (Tr.reg0 (cm rfl (cm rfl (cm rfl (Ch.nil (Fin.go (Tr.ret ?_))))))))))
 refine Fin.closeL (PartL c a b pv l) 0 rfl (⟨by simp only [List.length_set]; omega, (pa_start h0 hab hal hpv (hso.symm.trans (part_stop hci2c hcj2c (by omega) (by omega))) (by omega) (by omega)).2⟩) ?_
 refine Fin.retY2 [] rfl (RVal.tmp rfl (Pr.le_refl _)) (RVal.tmp rfl (Pr.le_refl _)) ?_
 · exact ex_in false (fact_in trivial (Pr.le_of_eq (by rw [(pa_start h0 hab hal hpv (hso.symm.trans (part_stop hci2c hcj2c (by omega) (by omega))) (by omega) (by omega)).1, Int.toNat_of_nonneg (by omega)])))
 refine Tr.skip (Fin.go (Tr.seq (Tr.regX mixed [none, none, none, none, none, none, none, some (0, 0, false, 0), none, none, none, some (0, 0, false, 0), none, some (0, 0, true, 0), none, some (0, 0, true, 0)] (by kernel_rfl) ?_)))
 iterate 6 refine xm rfl ?_
 refine xo rfl (fun _ => okp_indexSl rfl Tryz.underlying31 sz26 (vl rfl) (vl rfl) (by omega) (by omega)) (xrd 0 rfl rfl (rd_loadA rfl agg26 sz26 (vl rfl) (cells_atG (f := rowF) (fun _ => rfl) (by omega)) rfl) (xm rfl (xm rfl (xo rfl (fun _ => okp_indexSl rfl Tryz.underlying31 sz26 (vl rfl) (vl rfl) (by omega) (by omega)) (xrd 0 rfl rfl (rd_loadA rfl agg26 sz26 (vl rfl) (cells_atG (f := rowF) (fun _ => rfl) (by omega)) rfl) (xo rfl (fun _ => okp_indexSl rfl Tryz.underlying31 sz26 (vl rfl) (vl rfl) (by omega) (by omega)) ?_))))))
 refine Cx.ef0 0 rfl rfl (ef_store rfl rfl (vl rfl) (VL.le (vl rfl) (agg_cellsP _)) sz26 rfl (by rw [cells_len (sz := 11) (fun _ => rfl)]; omega) (cells_setG (f := rowF) (fun _ => rfl) (by omega))) ?_
 refine xo rfl (fun _ => okp_indexSl rfl Tryz.underlying31 sz26 (vl rfl) (vl rfl) (by omega) (by omega)) ?_
 refine Cx.ef0 0 rfl rfl (ef_store rfl rfl (vl rfl) (VL.le (vl rfl) (agg_cellsP _)) sz26 rfl (by rw [cells_len (sz := 11) (fun _ => rfl)]; simp only [List.length_set]; omega) (cells_setG (f := rowF) (fun _ => rfl) (by simp only [List.length_set]; omega))) ?_
 refine Cx.nil ⟨rfl, ?_⟩
 refine FinX.done (AllC.cons (AllC.cons (AllC.map _))) (Fin.go (wk5 0 1 4 12 13 rfl (Tr.seq (Tr.reg0 (cm rfl (cad rfl rfl rfl rfl (by omega) (cm rfl (Ch.nil (Fin.go (Tr.reg0 (cm rfl (csu rfl rfl rfl rfl (by omega) (cm rfl ?_)))))))))))))
 refine Ch.nil (Fin.block ?_)
 exact Fin.famD3V0 (i2 + 1) (j2 - 1) (_)  (⟨⟨⟨⟨by omega, by omega⟩, by omega, by omega⟩, by simp only [List.length_set]; exact hsl, (part_go hci2c hcj2c (by omega) (by omega) (by omega) (by omega)).trans hso⟩, by omega⟩) ⟨ke rfl, ke rfl, ke rfl, ke rfl, ke rfl, trivial⟩ (fun _ _ h => h)
set_option maxRecDepth 20000 in
theorem w_sins5G {l : List Fnd} {c : Fnd × Fnd → Int} {b0 cap len : Nat} {sp : List Value} {a b : Int} (hln : l.length = len) (hll : len ≤ 1000000) (hw : Go.Sort.SWO (ltc c)) (h0 : 0 ≤ a) (hab : a < b) (hb : b ≤ len) (hb5 : b < 50) : FunM Tryz.prog 195 [is (.slice (some ⟨b0, 0, none⟩) len cap), int a, int b, clo Tryz.prog (fun x : Fnd × Fnd => [agg (rowF x.1), agg (rowF x.2)]) (fun x => int (c x))] (ex fun z : Bool => fact (z = true → Go.Sort.SortedIn (ltc c) a.toNat b.toNat l.toArray) (bool z)) (cellsRes true b0 26 ((l.map rowF).flatten ++ sp.map is)) (fun _ => cellsRes true b0 26 ((l.map rowF).flatten ++ sp.map is)) := by
 refine FunM.of Tryz.func195 rfl rfl (by exact Nat.le_of_ble_eq_true rfl) fun M0 w0 S rs M1 w1 => ?_
 refine Tr.seq (Tr.reg0 (cm rfl (Ch.nil (Fin.go (Tr.seq (Tr.reg0 (cm rfl (cad rfl rfl rfl rfl (by omega) (cm rfl (Ch.nil (Fin.go (Tr.seq (Tr.seq (Tr.reg0 ?_))))))))))))))
 refine cm rfl (Ch.nil (Fin.go (Tr.block (Tr.loopD2V0 [(0, _), (1, _), (2, _), (3, _)] ⟨ke rfl, ke rfl, ke rfl, ke rfl, trivial⟩ (fun (i : Int) (j : Int) => [(9, int i), (10, int j)]) (fun (i : Int) (j : Int) => Hp M0 w0 S (cellsRes true b0 26 ((l.map rowF).flatten ++ sp.map is) :: extRes M1 w1 :: rs)) (fun (i : Int) (j : Int) => (j = 0 ∧ a < i ∧ i ≤ b) ∧ Adj c a i l) (fun (i : Int) (j : Int) => (5 - j).toNat) (a + 1) (0)  (⟨⟨rfl, by omega, by omega⟩, Adj.start a l h0⟩) ⟨ke rfl, ke rfl, trivial⟩ (fun _ _ h => h) ?_))))
 rintro i j  ⟨⟨hj0, hi1, hi2⟩, hadj⟩
 refine Tr.seq (Tr.seq (Tr.reg0 (cm rfl (co rfl (ki rfl rfl rfl rfl) (Ch.nil (Fin.go ?_))))))
 refine Tr.cn rfl ?_ ?_ <;> intro h1 q1
 skip
 refine Tr.skip (Fin.go (Tr.seq (Tr.block (Tr.seq (Tr.block (Tr.loopw [(0, _), (1, _), (2, _), (3, _), (10, _)] (kk5 rfl) (fun i2 : Int => [(9, int i2)]) (fun i2 : Int => (a < i2 ∧ i2 ≤ b) ∧ Adj c a i2 l) (fun i2 : Int => (b - i2).toNat) i (⟨⟨hi1, hi2⟩, hadj⟩) ⟨ke rfl, trivial⟩ ?_))))))
 rintro i2 ⟨⟨hi3, hi4⟩, hadj2⟩
 refine Tr.seq (Tr.seq (Tr.reg1 mixed (by kernel_rfl) (cm rfl (cm rfl (co rfl (ki rfl rfl rfl rfl) (cm rfl ?_))))))
 refine Ch.cs 22 rfl ?_ ?_ <;> intro h2 q2
 refine cym h2 rfl (cym h2 rfl (cym h2 rfl (cy h2 rfl (okp_indexSl rfl Tryz.underlying31 sz26 (vl rfl) (vl rfl) (by omega) (by omega)) (cy h2 rfl (ok_rd 0 rfl (rd_loadA rfl agg26 sz26 (vl rfl) (cells_atG (f := rowF) (fun _ => rfl) (by omega)) rfl)) (cym h2 rfl (cym h2 rfl ?_))))))
 refine cy h2 rfl (ok_sub rfl (vl rfl) (vl rfl) ?hin) ?_; case hin => unfold InI; omega
 refine cy h2 rfl (okp_indexSl rfl Tryz.underlying31 sz26 (vl rfl) (vl rfl) (by omega) (by omega)) (cy h2 rfl (ok_rd 0 rfl (rd_loadA rfl agg26 sz26 (vl rfl) (cells_atG (f := rowF) (fun _ => rfl) (by omega)) rfl)) (cy h2 rfl (ok_callc (_, _) rfl (vl rfl) ⟨ke rfl, ke rfl, trivial⟩) (cy h2 rfl (ki rfl rfl rfl rfl) (cy h2 rfl (ok_not rfl (vl rfl)) (co rfl (kpt rfl rfl h2 rfl) (Ch.nil (Fin.go (wk7 0 1 2 3 9 10 36 rfl ?_))))))))
 refine Tr.cn rfl ?_ ?_ <;> intro h3 q3
 have := h3
 refine Tr.skip (Fin.go (Tr.block (Tr.reg0 (cm rfl (cad rfl rfl rfl rfl (by omega) (cm rfl (Ch.nil (Fin.block (Fin.fam_same (i2 + 1) ⟨⟨⟨by omega, by omega⟩, hadj2.go h0 (by omega) rfl (by omega) (by omega) (by assumption)⟩, by omega⟩ (kk6 rfl))))))))))
 have := h3
 refine Tr.exit (Fin.then_exit (Fin.then_exit (Fin.block_here (Fin.go (Tr.seq (Tr.seq (Tr.reg0 (cm rfl (cm rfl (co rfl (ki rfl rfl rfl rfl) (Ch.nil (Fin.go ?_))))))))))))
 refine Tr.cn rfl ?_ ?_ <;> intro h4 q4
 refine Tr.seq (Tr.reg0 (cm rfl (Ch.nil (Fin.go (Tr.ret (Fin.then_ret (Fin.block_ret (Fin.then_ret (Fin.then_ret (Fin.block_ret (Fin.then_ret (Fin.retM1 rfl rfl ?_ (fun _ _ _ _ => rfl)))))))))))))
 · exact ex_in true (fact_in (fun _ => by rw [show b = i2 by omega]; exact hadj2.sorted hw) (Pr.le_refl _))
 refine Tr.skip (Fin.go (Tr.seq (Tr.seq (Tr.reg0 (cm rfl (cm rfl (csu rfl rfl rfl rfl (by omega) (co rfl (ki rfl rfl rfl rfl) (Ch.nil (Fin.go (wk7 0 1 2 3 9 10 45 rfl ?_)))))))))))
 refine Tr.cn rfl ?_ ?_ <;> intro h5 q5
 refine Tr.seq (Tr.reg0 (cm rfl (Ch.nil (Fin.go (Tr.ret (Fin.then_ret (Fin.block_ret (Fin.then_ret (Fin.then_ret (Fin.block_ret (Fin.then_ret (Fin.retM1 rfl rfl ?_ (fun _ _ _ _ => rfl)))))))))))))
 · exact ex_in false (fact_in (fun h => nomatch h) (Pr.le_refl _))
 exfalso; omega
 iterate 13 refine cnt h2 rfl ?_
 refine co rfl (kpf rfl rfl h2 rfl) (Ch.nil (Fin.go (wk7 0 1 2 3 9 10 36 rfl (Tr.cond rfl (fun h => nomatch h) (fun _ => ?_)))))
 refine Tr.exit (Fin.then_exit (Fin.then_exit (Fin.block_here (Fin.go (Tr.seq (Tr.seq (Tr.reg0 (cm rfl (cm rfl (co rfl (ki rfl rfl rfl rfl) (Ch.nil (Fin.go ?_))))))))))))
 refine Tr.cn rfl ?_ ?_ <;> intro h6 q6
 refine Tr.seq (Tr.reg0 (cm rfl (Ch.nil (Fin.go (Tr.ret (Fin.then_ret (Fin.block_ret (Fin.then_ret (Fin.then_ret (Fin.block_ret (Fin.then_ret (Fin.retM1 rfl rfl ?_ (fun _ _ _ _ => rfl)))))))))))))
 · exact ex_in true (fact_in (fun _ => by rw [show b = i2 by omega]; exact hadj2.sorted hw) (Pr.le_refl _))
 refine Tr.skip (Fin.go (Tr.seq (Tr.seq (Tr.reg0 (cm rfl (cm rfl (csu rfl rfl rfl rfl (by omega) (co rfl (ki rfl rfl rfl rfl) (Ch.nil (Fin.go (wk7 0 1 2 3 9 10 45 rfl ?_)))))))))))
 refine Tr.cn rfl ?_ ?_ <;> intro h7 q7
 refine Tr.seq (Tr.reg0 (cm rfl (Ch.nil (Fin.go (Tr.ret (Fin.then_ret (Fin.block_ret (Fin.then_ret (Fin.then_ret (Fin.block_ret (Fin.then_ret (Fin.retM1 rfl rfl ?_ (fun _ _ _ _ => rfl)))))))))))))
 · exact ex_in false (fact_in (fun h => nomatch h) (Pr.le_refl _))
 exfalso; omega
 have hj5 : ¬ j < 5 := of_decide_eq_false h1
 exfalso; omega
set_option maxRecDepth 20000 in
theorem w_sord2G {sb : Nat} {l : List Fnd} {c : Fnd × Fnd → Int} {b0 cap len : Nat} {sp : List Value} {a b : Int} (hln : l.length = len) (hll : len ≤ 1000000) (h0 : 0 ≤ a) (ha : a < len) (h1 : 0 ≤ b) (hb : b < len) : FunR Tryz.prog 255 [is (.slice (some ⟨b0, 0, none⟩) len cap), int a, int b, is (.pointer (some ⟨sb, 0, none⟩)), clo Tryz.prog (fun x : Fnd × Fnd => [agg (rowF x.1), agg (rowF x.2)]) (fun x => int (c x))] (ex fun z : Int × Int => fact ((z.1 = a ∧ z.2 = b) ∨ (z.1 = b ∧ z.2 = a)) (tup [int z.1, int z.2])) (cellsRes true sb 3 [anyK .i64]) (cellsRes true sb 3 [anyK .i64]) (cellsRes true b0 26 ((l.map rowF).flatten ++ sp.map is)) := by
 refine FunR.of Tryz.func255 rfl rfl (by exact Nat.le_of_ble_eq_true rfl) fun M0 w0 S rs M1 w1 => (Tr.seq (Tr.reg0 (cm rfl (cm rfl (Ch.nil (Fin.go (Tr.seq (Tr.seq (Tr.reg1 mixed (by kernel_rfl) (cm rfl (cm rfl (cm rfl (co rfl (okp_indexSl rfl Tryz.underlying31 sz26 (vl rfl) (vl rfl) (by omega) (by omega)) ?_)))))))))))))
 refine co rfl (ok_rd 2 rfl (rd_loadA rfl agg26 sz26 (vl rfl) (cells_atG (f := rowF) (fun _ => rfl) (by omega)) rfl)) (cm rfl (cm rfl (co rfl (okp_indexSl rfl Tryz.underlying31 sz26 (vl rfl) (vl rfl) (by omega) (by omega)) (co rfl (ok_rd 2 rfl (rd_loadA rfl agg26 sz26 (vl rfl) (cells_atG (f := rowF) (fun _ => rfl) (by omega)) rfl)) (co rfl (ok_callc (_, _) rfl (vl rfl) ⟨ke rfl, ke rfl, trivial⟩) (co rfl (ki rfl rfl rfl rfl) (Ch.nil (Fin.go ?_))))))))
 refine Tr.cn rfl ?_ ?_ <;> intro h1 q1
 refine Tr.seq (Tr.regT (tm rfl (tp rfl (okp_nilCheck rfl (vl rfl)) (TO.rd 0 rfl rfl rfl (by decide) (rd_load1 rfl one3 (vl rfl) rfl) (tp rfl (ok_addK rfl (vl rfl) (VL.le (vl rfl) (is_anyK _ _))) (tp rfl (okp_nilCheck rfl (vl rfl)) (TO.store_all 0 rfl rfl rfl (vl rfl) (VL.le (vl rfl) (one_cellsP _)) rfl sz3 rfl rfl (TO.nil (Fin.go (wk2 1 2 rfl (Tr.seq (Tr.reg0 ?_))))))))))))
 iterate 4 refine cm rfl ?_
 refine Ch.nil (Fin.go (Tr.ret (Fin.then_ret (Fin.retY2 [] rfl (RVal.tmp rfl (Pr.le_refl _)) (RVal.tmp rfl (Pr.le_refl _)) ?_))))
 · exact ex_in (b, a) (fact_in (.inr ⟨rfl, rfl⟩) (Pr.le_refl _))
 refine Tr.skip (Fin.go (Tr.seq (Tr.reg0 ?_)))
 iterate 4 refine cm rfl ?_
 refine Ch.nil (Fin.go (wk2 10 11 rfl (Tr.ret (Fin.retY2 [] rfl (RVal.tmp rfl (Pr.le_refl _)) (RVal.tmp rfl (Pr.le_refl _)) ?_))))
 · exact ex_in (a, b) (fact_in (.inl ⟨rfl, rfl⟩) (Pr.le_refl _))
set_option maxRecDepth 20000 in
theorem w_smedG {sb : Nat} {l : List Fnd} {c : Fnd × Fnd → Int} {b0 cap len : Nat} {sp : List Value} {a b d : Int} (hln : l.length = len) (hll : len ≤ 1000000) (h0 : 0 ≤ a) (ha : a < len) (h1 : 0 ≤ b) (hb : b < len) (h2 : 0 ≤ d) (hd : d < len) : FunR Tryz.prog 228 [is (.slice (some ⟨b0, 0, none⟩) len cap), int a, int b, int d, is (.pointer (some ⟨sb, 0, none⟩)), clo Tryz.prog (fun x : Fnd × Fnd => [agg (rowF x.1), agg (rowF x.2)]) (fun x => int (c x))] (ex fun z : Int => fact (z = a ∨ z = b ∨ z = d) (int z)) (cellsRes true sb 3 [anyK .i64]) (cellsRes true sb 3 [anyK .i64]) (cellsRes true b0 26 ((l.map rowF).flatten ++ sp.map is)) := by
 refine FunR.of Tryz.func228 rfl rfl (by exact Nat.le_of_ble_eq_true rfl) fun M0 w0 S rs M1 w1 => (Tr.seq (Tr.reg0 (cm rfl (Ch.nil (Fin.go (Tr.seq (Tr.regT ?_)))))))
 iterate 5 refine tm rfl ?_
 refine TO.callR 0 2 rfl rfl (by decide) rfl rfl (by decide) rfl (w_sord2G (by omega) (by omega) (by omega) (by omega) (by omega) (by omega)) ⟨ke rfl, ke rfl, ke rfl, ke rfl, ke rfl, trivial⟩ ?_
 refine TO.ex 19 rfl (fun z1 => TO.fact 19 rfl fun hz1 => ?_)
 refine tm rfl (tp rfl (ok_extract rfl (vl rfl) rfl) (tp rfl (ok_extract rfl (vl rfl) rfl) (tm rfl (tm rfl (TO.nil (Fin.go (Tr.seq (Tr.regT ?_))))))))
 iterate 5 refine tm rfl ?_
 refine TO.callR 0 2 rfl rfl (by decide) rfl rfl (by decide) rfl (w_sord2G (by omega) (by omega) (by omega) (by omega) (by omega) (by omega)) ⟨ke rfl, ke rfl, ke rfl, ke rfl, ke rfl, trivial⟩ ?_
 refine TO.ex 28 rfl (fun z2 => TO.fact 28 rfl fun hz2 => ?_)
 refine tm rfl (tp rfl (ok_extract rfl (vl rfl) rfl) (tp rfl (ok_extract rfl (vl rfl) rfl) (tm rfl (tm rfl (TO.nil (Fin.go (wk5 0 1 2 4 5 rfl (Tr.seq (Tr.regT ?_)))))))))
 iterate 5 refine tm rfl ?_
 refine TO.callR 0 2 rfl rfl (by decide) rfl rfl (by decide) rfl (w_sord2G (by omega) (by omega) (by omega) (by omega) (by omega) (by omega)) ⟨ke rfl, ke rfl, ke rfl, ke rfl, ke rfl, trivial⟩ ?_
 refine TO.ex 37 rfl (fun z3 => TO.fact 37 rfl fun hz3 => ?_)
 refine tm rfl (tp rfl (ok_extract rfl (vl rfl) rfl) (tp rfl (ok_extract rfl (vl rfl) rfl) (tm rfl (tm rfl (TO.nil (Fin.go (wk1 2 rfl (Tr.seq (Tr.reg0 (cm rfl (cm rfl (Ch.nil (Fin.go (Tr.ret ?_))))))))))))))
 refine Fin.retM1 rfl rfl ?_ (fun _ _ _ _ => rfl)
 · exact ex_in _ (fact_in (by omega) (Pr.le_refl _))
set_option maxRecDepth 20000 in
theorem w_spivG {l : List Fnd} {c : Fnd × Fnd → Int} {b0 cap len : Nat} {sp : List Value} {a b : Int} (hln : l.length = len) (hll : len ≤ 1000000) (h0 : 0 ≤ a) (hab : a < b) (hb : b ≤ len) (hb5 : b < 50) : FunM Tryz.prog 193 [is (.slice (some ⟨b0, 0, none⟩) len cap), int a, int b, clo Tryz.prog (fun x : Fnd × Fnd => [agg (rowF x.1), agg (rowF x.2)]) (fun x => int (c x))] (ex fun z : Int × Int => fact (a ≤ z.1 ∧ z.1 < b) (tup [int z.1, int z.2])) (cellsRes true b0 26 ((l.map rowF).flatten ++ sp.map is)) (fun _ => cellsRes true b0 26 ((l.map rowF).flatten ++ sp.map is)) := by
 refine FunM.of Tryz.func193 rfl rfl (by exact Nat.le_of_ble_eq_true rfl) fun M0 w0 S rs M1 w1 => ?_
 have hq := quart (n := b - a) (by omega) (by omega)
 obtain ⟨hq1, hq2, hq3⟩ := hq
 refine Tr.seq (Tr.reg0 (cm rfl (cm rfl (Ch.nil (Fin.go (Tr.seq (Tr.reg0 (cm rfl (cm rfl (csu rfl rfl rfl rfl (by omega) (cm rfl (Ch.nil (Fin.go (Tr.seq ?_))))))))))))))
 refine Tr.regT ?_
 refine TO.alloc rfl rfl (by decide) rfl z3 zo3 (fun b1 => ?_)
 refine TO.nil (Fin.go (Tr.seq (Tr.reg0 (cm rfl (cm rfl (co rfl (ok_quo rfl (vl rfl) (vl rfl) (by omega)) ?_))))))
 refine co rfl (ok_mul rfl (vl rfl) (vl rfl) ?hin) ?_; case hin => unfold InI; omega
 refine cad rfl rfl rfl rfl (by omega) (cm rfl (Ch.nil (Fin.go (wk6 0 1 3 10 11 12 rfl (Tr.seq (Tr.reg0 (cm rfl (cm rfl (co rfl (ok_quo rfl (vl rfl) (vl rfl) (by omega)) ?_)))))))))
 refine co rfl (ok_mul rfl (vl rfl) (vl rfl) ?hin) ?_; case hin => unfold InI; omega
 refine cad rfl rfl rfl rfl (by omega) (cm rfl (Ch.nil (Fin.go (Tr.seq (Tr.reg0 (cm rfl (cm rfl (co rfl (ok_quo rfl (vl rfl) (vl rfl) (by omega)) ?_))))))))
 refine co rfl (ok_mul rfl (vl rfl) (vl rfl) ?hin) ?_; case hin => unfold InI; omega
 refine cad rfl rfl rfl rfl (by omega) (cm rfl (Ch.nil (Fin.go (wk7 0 3 10 11 12 13 14 rfl (Tr.seq (Tr.seq (Tr.reg0 (cm rfl (co rfl (ki rfl rfl rfl rfl) (Ch.nil (Fin.go ?_)))))))))))
 refine Tr.cn rfl ?_ ?_ <;> intro h1 q1
 refine Tr.seq (Tr.seq (Tr.reg0 (cm rfl (co rfl (ki rfl rfl rfl rfl) (Ch.nil (Fin.go ?_))))))
 refine Tr.cn rfl ?_ ?_ <;> intro h2 q2
 exfalso; omega
 refine Tr.skip (Fin.go (Tr.leC 0 [anyK .i64] rfl ⟨is_anyK _ _, trivial⟩ (Tr.regT ?_)))
 iterate 5 refine tm rfl ?_
 refine TO.callR 0 1 rfl rfl (by decide) rfl rfl (by decide) rfl (w_smedG (by omega) (by omega) (by omega) (by omega) (by omega) (by omega) (by omega) (by omega)) ⟨ke rfl, ke rfl, ke rfl, ke rfl, ke rfl, ke rfl, trivial⟩ ?_
 refine TO.ex 54 rfl (fun z1 => TO.fact 54 rfl fun hz1 => ?_)
 refine tm rfl (TO.nil (Fin.go (wk2 11 13 rfl (Tr.seq (Tr.reg0 (co rfl (ok_rd 0 rfl (rd_load1 rfl one3 (vl rfl) rfl)) (Ch.nil (Fin.go (Tr.drop 0 (Tr.block (Tr.seq (Tr.ex 55 rfl fun sw => (Tr.reg0 ?_)))))))))))))
 refine co rfl (ki rfl rfl rfl rfl) (cm rfl (Ch.nil (Fin.go ?_)))
 refine Tr.cn rfl ?_ ?_ <;> intro h3 q3
 refine Tr.seq (Tr.reg0 (cm rfl (cm rfl (cm rfl (Ch.nil (Fin.go (Tr.ret (Fin.block_ret (Fin.retY2 [] rfl (RVal.tmp rfl (Pr.le_refl _)) (RVal.tmp rfl (Pr.le_refl _)) ?_)))))))))
 · exact ex_in (_, _) (fact_in ⟨by omega, by omega⟩ (Pr.le_refl _))
 refine Tr.seq (Tr.reg0 (co rfl (ki rfl rfl rfl rfl) (cm rfl (Ch.nil (Fin.go ?_)))))
 refine Tr.cn rfl ?_ ?_ <;> intro h4 q4
 refine Tr.seq (Tr.reg0 (cm rfl (cm rfl (cm rfl (Ch.nil (Fin.go (Tr.ret (Fin.block_ret (Fin.retY2 [] rfl (RVal.tmp rfl (Pr.le_refl _)) (RVal.tmp rfl (Pr.le_refl _)) ?_)))))))))
 · exact ex_in (_, _) (fact_in ⟨by omega, by omega⟩ (Pr.le_refl _))
 refine Tr.seq (Tr.reg0 (cm rfl (cm rfl (cm rfl (Ch.nil (Fin.go (Tr.ret (Fin.block_ret (Fin.retY2 [] rfl (RVal.tmp rfl (Pr.le_refl _)) (RVal.tmp rfl (Pr.le_refl _)) ?_)))))))))
 · exact ex_in (_, _) (fact_in ⟨by omega, by omega⟩ (Pr.le_refl _))
 refine Tr.skip (Fin.go (Tr.seq (Tr.leC 0 [anyK .i64] rfl ⟨is_anyK _ _, trivial⟩ (Tr.reg0 (co rfl (ok_rd 0 rfl (rd_load1 rfl one3 (vl rfl) rfl)) (Ch.nil (Fin.go (Tr.drop 0 (Tr.block (Tr.seq (Tr.ex 55 rfl fun sw => (Tr.reg0 (co rfl (ki rfl rfl rfl rfl) ?_)))))))))))))
 refine cm rfl (Ch.nil (Fin.go ?_))
 refine Tr.cn rfl ?_ ?_ <;> intro h5 q5
 refine Tr.seq (Tr.reg0 (cm rfl (cm rfl (cm rfl (Ch.nil (Fin.go (wk2 8 9 rfl (Tr.ret (Fin.block_ret (Fin.retY2 [] rfl (RVal.tmp rfl (Pr.le_refl _)) (RVal.tmp rfl (Pr.le_refl _)) ?_))))))))))
 · exact ex_in (_, _) (fact_in ⟨by omega, by omega⟩ (Pr.le_refl _))
 refine Tr.seq (Tr.reg0 (co rfl (ki rfl rfl rfl rfl) (cm rfl (Ch.nil (Fin.go (wk2 13 60 rfl ?_))))))
 refine Tr.cn rfl ?_ ?_ <;> intro h6 q6
 refine Tr.seq (Tr.reg0 (cm rfl (cm rfl (cm rfl (Ch.nil (Fin.go (Tr.ret (Fin.block_ret (Fin.retY2 [] rfl (RVal.tmp rfl (Pr.le_refl _)) (RVal.tmp rfl (Pr.le_refl _)) ?_)))))))))
 · exact ex_in (_, _) (fact_in ⟨by omega, by omega⟩ (Pr.le_refl _))
 refine Tr.seq (Tr.reg0 (cm rfl (cm rfl (cm rfl (Ch.nil (Fin.go (Tr.ret (Fin.block_ret (Fin.retY2 [] rfl (RVal.tmp rfl (Pr.le_refl _)) (RVal.tmp rfl (Pr.le_refl _)) ?_)))))))))
 · exact ex_in (_, _) (fact_in ⟨by omega, by omega⟩ (Pr.le_refl _))
set_option maxRecDepth 20000 in
theorem w_sbrkG {l : List Fnd} {c : Fnd × Fnd → Int} {b0 cap len : Nat} {sp : List Value} {a b : Int} (hln : l.length = len) (hll : len ≤ 1000000) (h0 : 0 ≤ a) (hab : a ≤ b) (hb : b ≤ len) (hb5 : b < 50) : FunM Tryz.prog 192 [is (.slice (some ⟨b0, 0, none⟩) len cap), int a, int b, clo Tryz.prog (fun x : Fnd × Fnd => [agg (rowF x.1), agg (rowF x.2)]) (fun x => int (c x))] (unit_) (cellsRes true b0 26 ((l.map rowF).flatten ++ sp.map is)) (fun _ => relRes b0 26 rowF (PermL a b l) (sp.map is)) := by
 refine FunM.of Tryz.func192 rfl rfl (by exact Nat.le_of_ble_eq_true rfl) fun M0 w0 S rs M1 w1 => ?_
 have hq := quart (n := b - a) (by omega) (by omega)
 obtain ⟨hq1, hq2, hq3⟩ := hq
 refine Tr.seq (Tr.reg0 (cm rfl (cm rfl (csu rfl rfl rfl rfl (by omega) (cm rfl (Ch.nil (Fin.go (Tr.seq (Tr.reg0 (cm rfl (co rfl (ki rfl rfl rfl rfl) (Ch.nil (Fin.go ?_)))))))))))))
 refine Tr.cn rfl ?_ ?_ <;> intro h1 q1
 refine Tr.seq (Tr.regT (tm rfl (tp rfl (ok_conv rfl Tryz.underlying3 Tryz.underlying211 (vl rfl)) ?_)))
 refine TO.alloc rfl rfl (by decide) rfl z211 zo211 (fun b1 => ?_)
 refine TO.store_all 0 rfl rfl rfl (vl rfl) (VL.le (vl rfl) (one_cellsP _)) rfl sz211 rfl rfl (TO.nil (Fin.go (Tr.seq (Tr.leC 0 [anyK .u64] rfl ⟨is_anyK _ _, trivial⟩ (Tr.regT (tm rfl (tp rfl (ok_call rfl (w_npow (by omega) (by omega)) ⟨ke rfl, trivial⟩) ?_)))))))
 refine TO.ex 21 rfl (fun md => TO.fact 21 rfl fun hmd => ?_)
 obtain ⟨hmd1, hmd2⟩ := hmd
 have hwm : IntKind.u64.wrap (md - 1) = md - 1 := IntWalk.u64_in _ ⟨by omega, by omega⟩
 refine tm rfl (TO.nil (Fin.go (Tr.seq (Tr.reg0 (cm rfl (cm rfl (co rfl (ok_quo rfl (vl rfl) (vl rfl) (by omega)) ?_)))))))
 refine co rfl (ok_mul rfl (vl rfl) (vl rfl) ?hin) ?_; case hin => unfold InI; omega
 refine cad rfl rfl rfl rfl (by omega) (csu rfl rfl rfl rfl (by omega) (cm rfl (Ch.nil (Fin.go (wk6 0 1 8 9 10 11 rfl (Tr.block (Tr.loopD2V0 [(0, _), (1, _), (8, _), (9, _), (10, _)] ⟨ke rfl, ke rfl, ke rfl, ke rfl, ke rfl, trivial⟩ (fun (i : Int) (st : List Fnd) => [(11, int i)]) (fun (i : Int) (st : List Fnd) => Hp M0 w0 S (cellsRes true b1 211 [anyK .u64] :: cellsRes true b0 26 ((st.map rowF).flatten ++ sp.map is) :: extRes M1 w1 :: rs)) (fun (i : Int) (st : List Fnd) => (a ≤ i ∧ i ≤ b) ∧ st.length = len ∧ PermL a b l st) (fun (i : Int) (st : List Fnd) => (b - i).toNat) (a + IntKind.i64.wrap ((b - a).tdiv 4) * 2 - 1) (l)  (⟨⟨by omega, by omega⟩, by omega, PermL.refl _ _ _⟩) ⟨ke rfl, trivial⟩ (fun _ _ h => h) ?_)))))))
 rintro i st  ⟨⟨hi1, hi2⟩, hsl, hso⟩
 refine Tr.seq (Tr.seq (Tr.reg0 (cm rfl (cm rfl (cm rfl (co rfl (ok_quo rfl (vl rfl) (vl rfl) (by omega)) ?_))))))
 refine co rfl (ok_mul rfl (vl rfl) (vl rfl) ?hin) ?_; case hin => unfold InI; omega
 refine cad rfl rfl rfl rfl (by omega) (cad rfl rfl rfl rfl (by omega) (co rfl (ki rfl rfl rfl rfl) (Ch.nil (Fin.go (wk7 0 1 8 9 10 11 35 rfl ?_)))))
 refine Tr.cn rfl ?_ ?_ <;> intro h2 q2
 have := h2
 refine Tr.skip (Fin.go (Tr.seq (Tr.block (Tr.seq (Tr.regT (TO.efc 0 rfl rfl (by decide) (ef_callc rfl rfl (by decide) rfl (w_xnext) ⟨ke rfl, trivial⟩) (tm rfl (tp rfl (ki rfl rfl rfl rfl) (tp rfl (ok_andle rfl (vl rfl) (vl rfl) (by omega) (by omega)) ?_)))))))))
 
 refine TO.ex 41 rfl (fun z1 => TO.fact 41 rfl fun hz1 => ?_)
 refine tp rfl (ok_convI rfl Tryz.underlying150 Tryz.underlying3 (vl rfl) (by unfold InI; omega)) ?_
 refine tm rfl (TO.nil (Fin.go (Tr.cutD1V0 [(0, _), (1, _), (8, _), (9, _), (10, _), (11, _)] ⟨ke rfl, ke rfl, ke rfl, ke rfl, ke rfl, ke rfl, trivial⟩ (fun (ot : Int) => [(12, int ot)]) (fun (ot : Int) => Hp M0 w0 S (cellsRes true b1 211 [anyK .u64] :: cellsRes true b0 26 ((st.map rowF).flatten ++ sp.map is) :: extRes M1 w1 :: rs)) (fun (ot : Int) => 0 ≤ ot ∧ ot < b - a) ?_ ?_)))
 refine Tr.seq (Tr.reg0 (cm rfl (cm rfl (co rfl (ki rfl rfl rfl rfl) (Ch.nil (Fin.go (wk8 0 1 8 9 10 11 12 45 rfl ?_)))))))
 refine Tr.cn rfl ?_ ?_ <;> intro h3 q3
 refine Tr.reg0 (cm rfl (cm rfl (csu rfl rfl rfl rfl (by omega) (cm rfl (Ch.nil (Fin.famD1V0 (_)  (⟨by omega, by omega⟩) ⟨ke rfl, ke rfl, ke rfl, ke rfl, ke rfl, ke rfl, ke rfl, trivial⟩ (fun _ _ h => h)))))))
 refine Tr.skip (Fin.famD1V0 (_)  (⟨by omega, by omega⟩) ⟨ke rfl, ke rfl, ke rfl, ke rfl, ke rfl, ke rfl, ke rfl, trivial⟩ (fun _ _ h => h))
 rintro ot  ⟨hot1, hot2⟩
 refine Tr.regX mixed [none, none, none, none, none, none, none, none, none, none, none, some (0, 1, false, 0), none, none, none, some (0, 1, false, 0), none, some (0, 1, true, 0), none, some (0, 1, true, 0)] (by kernel_rfl) ?_
 iterate 5 refine xm rfl ?_
 refine xo rfl (fun _ => ok_add rfl (vl rfl) (vl rfl) ?hin) ?_; case hin => unfold InI; omega
 refine xm rfl (xm rfl (xm rfl ?_))
 refine xo rfl (fun _ => ok_add rfl (vl rfl) (vl rfl) ?hin) ?_; case hin => unfold InI; omega
 refine xo rfl (fun _ => okp_indexSl rfl Tryz.underlying31 sz26 (vl rfl) (vl rfl) (by omega) (by omega)) (xrd 1 rfl rfl (rd_loadA rfl agg26 sz26 (vl rfl) (cells_atG (f := rowF) (fun _ => rfl) (by omega)) rfl) (xm rfl (xm rfl (xo rfl (fun _ => okp_indexSl rfl Tryz.underlying31 sz26 (vl rfl) (vl rfl) (by omega) (by omega)) (xrd 1 rfl rfl (rd_loadA rfl agg26 sz26 (vl rfl) (cells_atG (f := rowF) (fun _ => rfl) (by omega)) rfl) (xo rfl (fun _ => okp_indexSl rfl Tryz.underlying31 sz26 (vl rfl) (vl rfl) (by omega) (by omega)) ?_))))))
 refine Cx.ef0 1 rfl rfl (ef_store rfl rfl (vl rfl) (VL.le (vl rfl) (agg_cellsP _)) sz26 rfl (by rw [cells_len (sz := 11) (fun _ => rfl)]; omega) (cells_setG (f := rowF) (fun _ => rfl) (by omega))) ?_
 refine xo rfl (fun _ => okp_indexSl rfl Tryz.underlying31 sz26 (vl rfl) (vl rfl) (by omega) (by omega)) ?_
 refine Cx.ef0 1 rfl rfl (ef_store rfl rfl (vl rfl) (VL.le (vl rfl) (agg_cellsP _)) sz26 rfl (by rw [cells_len (sz := 11) (fun _ => rfl)]; simp only [List.length_set]; omega) (cells_setG (f := rowF) (fun _ => rfl) (by simp only [List.length_set]; omega))) ?_
 refine Cx.nil ⟨rfl, ?_⟩
 refine FinX.done (AllC.cons (AllC.cons (AllC.cons (AllC.map _)))) (Fin.block (Fin.go (wk6 0 1 8 9 10 11 rfl (Tr.reg0 (cm rfl (cad rfl rfl rfl rfl (by omega) (cm rfl (Ch.nil ?_))))))))
 exact Fin.famD2V0 (i + 1) (_)  (⟨⟨⟨by omega, by omega⟩, by simp only [List.length_set]; exact hsl, hso.swap (by omega) (by omega) (by omega) (by omega) (by omega) (by omega) (by omega)⟩, by omega⟩) ⟨ke rfl, ke rfl, ke rfl, ke rfl, ke rfl, ke rfl, trivial⟩ (fun _ _ h => h)
 have := h2
 refine Tr.exit (Fin.then_exit (Fin.then_exit (Fin.block_here (Fin.closeL (PermL a b l) 1 rfl (by exact hso) ?_))))
 refine Fin.drop 0 (Fin.retM0 rfl)
 refine Tr.skip (Fin.closeL (PermL a b l) 0 rfl (by exact PermL.refl _ _ _) ?_)
 exact Fin.retM0 rfl
end Go.Proofs.YtgdlhajfajddiaaGreat
namespace Go.Proofs.YtgdlhajfajddiaaGreat
open Go Go.RowKit Cp
set_option maxRecDepth 20000 in
theorem w_spdq0G {l : List Fnd} {c : Fnd × Fnd → Int} {b0 cap len : Nat} {sp : List Value} {a b lim : Int} (hln : l.length = len) (hll : len ≤ 1000000) (hw : Go.Sort.SWO (ltc c)) (hc5 : len < 50) (hB : Go.Sort.Below (ltc c) a.toNat b.toNat l.toArray) (h0 : 0 ≤ a) (hab : a ≤ b) (hb : b ≤ len) (hl0 : 0 ≤ lim) (hl1 : lim ≤ 100) (m : Nat) (hm : (b - a).toNat < m) (ih : ∀ {l : List Fnd} {a b lim : Int} {sp : List Value}, l.length = len → Go.Sort.Below (ltc c) a.toNat b.toNat l.toArray → 0 ≤ a → a ≤ b → b ≤ len → 0 ≤ lim → lim ≤ 100 → (b - a).toNat + 1 < m → FunM Tryz.prog 130 [is (.slice (some ⟨b0, 0, none⟩) len cap), int a, int b, int lim, clo Tryz.prog (fun x : Fnd × Fnd => [agg (rowF x.1), agg (rowF x.2)]) (fun x => int (c x))] (unit_) (cellsRes true b0 26 ((l.map rowF).flatten ++ sp.map is)) (fun _ => relRes b0 26 rowF (SortL c a b l) (sp.map is)))  : FunM Tryz.prog 130 [is (.slice (some ⟨b0, 0, none⟩) len cap), int a, int b, int lim, clo Tryz.prog (fun x : Fnd × Fnd => [agg (rowF x.1), agg (rowF x.2)]) (fun x => int (c x))] (unit_) (cellsRes true b0 26 ((l.map rowF).flatten ++ sp.map is)) (fun _ => relRes b0 26 rowF (SortL c a b l) (sp.map is)) := by
 refine FunM.of Tryz.func130 rfl rfl (by exact Nat.le_of_ble_eq_true rfl) fun M0 w0 S rs M1 w1 => ?_
 have hls : b.toNat ≤ l.toArray.size := by simp only [List.size_toArray]; omega
 refine Tr.seq (Tr.reg0 (cm rfl (Ch.nil (Fin.go (Tr.seq (Tr.reg0 (cm rfl (Ch.nil (Fin.go (Tr.block (Tr.loopD4V0 [(0, _), (4, _)] ⟨ke rfl, ke rfl, trivial⟩ (fun (a1 : Int) (b1 : Int) (p : Int × Bool × Bool) (st : List Fnd) => [(1, int a1), (2, int b1), (3, int p.1), (10, bool p.2.1), (11, bool p.2.2)]) (fun (a1 : Int) (b1 : Int) (p : Int × Bool × Bool) (st : List Fnd) => Hp M0 w0 S (cellsRes true b0 26 ((st.map rowF).flatten ++ sp.map is) :: extRes M1 w1 :: rs)) (fun (a1 : Int) (b1 : Int) (p : Int × Bool × Bool) (st : List Fnd) => ((a ≤ a1 ∧ a1 ≤ b1 ∧ b1 ≤ b) ∧ 0 ≤ p.1 ∧ p.1 ≤ 100) ∧ st.length = len ∧ PS (ltc c) a.toNat b.toNat a1.toNat b1.toNat l.toArray st.toArray) (fun (a1 : Int) (b1 : Int) (p : Int × Bool × Bool) (st : List Fnd) => (b1 - a1).toNat) (a) (b) ((lim, (true, true))) (l)  (⟨⟨⟨by omega, hab, by omega⟩, hl0, hl1⟩, hln, PS.init (by omega) hB⟩) ⟨ke rfl, ke rfl, ke rfl, ke rfl, ke rfl, trivial⟩ (fun _ _ h => h) ?_)))))))))))
 rintro a1 b1 p st  ⟨⟨⟨ha1, ha2, ha3⟩, hpl, hpl2⟩, hsl, hps⟩
 refine Tr.block (Tr.seq (Tr.reg0 (cm rfl (cm rfl (csu rfl rfl rfl rfl (by omega) (cm rfl (Ch.nil (Fin.go (Tr.seq (Tr.seq (Tr.reg0 (cm rfl (co rfl (ki rfl rfl rfl rfl) ?_)))))))))))))
 refine Ch.nil (Fin.go ?_)
 refine Tr.cn rfl ?_ ?_ <;> intro h1 q1
 refine Tr.seq (Tr.regT ?_)
 iterate 4 refine tm rfl ?_
 refine TO.efc 0 rfl rfl (by decide) (ef_callc rfl rfl (by decide) rfl (w_sinsG (by omega) (by omega) hw (by omega) (by omega) (by omega)) ⟨ke rfl, ke rfl, ke rfl, ke rfl, trivial⟩) (TO.openL 0 rfl fun t1 hp1 => ?_)
 have hpl1 := hp1.len
 have hdone := (hps.perm hls hp1.1).done hp1.2
 refine TO.nil (Fin.go (Tr.weak [] trivial (Tr.ret (Fin.then_ret (Fin.block_ret (Fin.then_ret (Fin.block_ret (Fin.closeL (SortL c a b l) 0 rfl (hdone) (Fin.retM0r rfl)))))))))
 refine Tr.skip (Fin.go (Tr.seq (Tr.seq (Tr.reg0 (cm rfl (co rfl (ki rfl rfl rfl rfl) (Ch.nil (Fin.go (wk9 0 1 2 3 4 10 11 12 32 rfl ?_)))))))))
 refine Tr.cn rfl ?_ ?_ <;> intro h2 q2
 refine Tr.seq (Tr.regT ?_)
 iterate 4 refine tm rfl ?_
 refine TO.efc 0 rfl rfl (by decide) (ef_callc rfl rfl (by decide) rfl (w_sheapG (by omega) (by omega) hw (by omega) (by omega) (by omega)) ⟨ke rfl, ke rfl, ke rfl, ke rfl, trivial⟩) (TO.openL 0 rfl fun t2 hp2 => ?_)
 have hpl2 := hp2.len
 have hdone := (hps.perm hls hp2.1).done hp2.2
 refine TO.nil (Fin.go (Tr.weak [] trivial (Tr.ret (Fin.then_ret (Fin.block_ret (Fin.then_ret (Fin.block_ret (Fin.closeL (SortL c a b l) 0 rfl (hdone) (Fin.retM0r rfl)))))))))
 refine Tr.skip (Fin.go (Tr.cutD2V0 [(0, _), (1, _), (2, _), (4, _), (10, _), (11, _), (12, _)] ⟨ke rfl, ke rfl, ke rfl, ke rfl, ke rfl, ke rfl, ke rfl, trivial⟩ (fun (lim2 : Int) (st2 : List Fnd) => [(3, int lim2)]) (fun (lim2 : Int) (st2 : List Fnd) => Hp M0 w0 S (cellsRes true b0 26 ((st2.map rowF).flatten ++ sp.map is) :: extRes M1 w1 :: rs)) (fun (lim2 : Int) (st2 : List Fnd) => 0 ≤ lim2 ∧ lim2 ≤ 100 ∧ st2.length = len ∧ PS (ltc c) a.toNat b.toNat a1.toNat b1.toNat l.toArray st2.toArray) ?_ ?_))
 refine Tr.seq (Tr.reg0 (cm rfl (co rfl (ok_not rfl (vl rfl)) (Ch.nil (Fin.go ?_)))))
 refine Tr.cn rfl ?_ ?_ <;> intro h3 q3
 refine Tr.seq (Tr.regT ?_)
 iterate 4 refine tm rfl ?_
 refine TO.efc 0 rfl rfl (by decide) (ef_callc rfl rfl (by decide) rfl (w_sbrkG (by omega) (by omega) (by omega) (by omega) (by omega) (by omega)) ⟨ke rfl, ke rfl, ke rfl, ke rfl, trivial⟩) (TO.openL 0 rfl fun t3 hp3 => ?_)
 have hpl3 := hp3.len
 have hps := hps.perm hls hp3
 refine TO.nil (Fin.go (wk8 0 1 2 3 4 10 11 12 rfl (Tr.reg0 (cm rfl (csu rfl rfl rfl rfl (by omega) (cm rfl (Ch.nil (Fin.famD2V0 (_) (_)  (⟨by omega, by omega, by omega, hps⟩) ⟨ke rfl, ke rfl, ke rfl, ke rfl, ke rfl, ke rfl, ke rfl, ke rfl, trivial⟩ (fun _ _ h => h)))))))))
 refine Tr.skip (Fin.famD2V0 (_) (_)  (⟨by omega, by omega, by omega, hps⟩) ⟨ke rfl, ke rfl, ke rfl, ke rfl, ke rfl, ke rfl, ke rfl, ke rfl, trivial⟩ (fun _ _ h => h))
 rintro lim2 st2  ⟨hlm2, hlm3, hsl2, hps⟩
 refine Tr.seq (Tr.regT ?_)
 iterate 4 refine tm rfl ?_
 refine TO.efc 0 rfl rfl (by decide) (ef_callc rfl rfl (by decide) rfl (w_spivG (by omega) (by omega) (by omega) (by omega) (by omega) (by omega)) ⟨ke rfl, ke rfl, ke rfl, ke rfl, trivial⟩) ?_
 refine TO.ex 52 rfl (fun z1 => TO.fact 52 rfl fun hz1 => ?_)
 obtain ⟨hpv1, hpv2⟩ := hz1
 refine tm rfl (tp rfl (ok_extract rfl (vl rfl) rfl) (tp rfl (ok_extract rfl (vl rfl) rfl) (tm rfl (tm rfl (TO.nil (Fin.go (wk10 0 1 2 3 4 10 11 12 13 14 rfl (Tr.cutD3V0 [(0, _), (1, _), (2, _), (3, _), (4, _), (10, _), (11, _), (12, _)] ⟨ke rfl, ke rfl, ke rfl, ke rfl, ke rfl, ke rfl, ke rfl, ke rfl, trivial⟩ (fun (pv : Int) (hint : Int) (st3 : List Fnd) => [(13, int pv), (14, int hint)]) (fun (pv : Int) (hint : Int) (st3 : List Fnd) => Hp M0 w0 S (cellsRes true b0 26 ((st3.map rowF).flatten ++ sp.map is) :: extRes M1 w1 :: rs)) (fun (pv : Int) (hint : Int) (st3 : List Fnd) => (a1 ≤ pv ∧ pv < b1) ∧ st3.length = len ∧ PS (ltc c) a.toNat b.toNat a1.toNat b1.toNat l.toArray st3.toArray) ?_ ?_))))))))
 refine Tr.seq (Tr.reg0 (cm rfl (co rfl (ki rfl rfl rfl rfl) (Ch.nil (Fin.go ?_)))))
 refine Tr.cn rfl ?_ ?_ <;> intro h4 q4
 refine Tr.seq (Tr.regT ?_)
 iterate 4 refine tm rfl ?_
 refine TO.efc 0 rfl rfl (by decide) (ef_callc rfl rfl (by decide) rfl (w_srevG (by omega) (by omega) (by omega) (by omega) (by omega)) ⟨ke rfl, ke rfl, ke rfl, ke rfl, trivial⟩) (TO.openL 0 rfl fun t5 hp5 => ?_)
 have hpl5 := hp5.len
 have hps := hps.perm hls hp5
 refine TO.nil (Fin.go (wk9 0 1 2 3 4 10 11 12 13 rfl (Tr.seq (Tr.reg0 (cm rfl (csu rfl rfl rfl rfl (by omega) (cm rfl (cm rfl (csu rfl rfl rfl rfl (by omega) (csu rfl rfl rfl rfl (by omega) (cm rfl (Ch.nil (Fin.go ?_)))))))))))))
 refine wk9 0 1 2 3 4 10 11 12 13 rfl (Tr.reg0 (cm rfl (Ch.nil (Fin.famD3V0 (_) (_) (_)  (⟨⟨by omega, by omega⟩, by omega, hps⟩) ⟨ke rfl, ke rfl, ke rfl, ke rfl, ke rfl, ke rfl, ke rfl, ke rfl, ke rfl, ke rfl, trivial⟩ (fun _ _ h => h)))))
 refine Tr.skip (Fin.famD3V0 (_) (_) (_)  (⟨⟨by omega, by omega⟩, by omega, hps⟩) ⟨ke rfl, ke rfl, ke rfl, ke rfl, ke rfl, ke rfl, ke rfl, ke rfl, ke rfl, ke rfl, trivial⟩ (fun _ _ h => h))
 rintro pv hint st3  ⟨⟨hpv1, hpv2⟩, hsl3, hps⟩
 refine wk10 0 1 2 3 4 10 11 12 13 14 rfl (Tr.cutk [0, 1, 2, 3, 4, 10, 11, 12, 13] [] (True) ?_ (fun h5 => ?_))
 refine Tr.seq (Tr.reg0 (cm rfl (cm rfl ?_)))
 refine Ch.cs 69 rfl ?_ ?_ <;> intro h6 q6
 refine cym h6 rfl (co rfl (kpt rfl rfl h6 rfl) (cm rfl ?_))
 refine Ch.cs 72 rfl ?_ ?_ <;> intro h7 q7
 refine cym h7 rfl (cy h7 rfl (ki rfl rfl rfl rfl) (co rfl (kpt rfl rfl h7 rfl) (Ch.nil (Fin.go (wk10 0 1 2 3 4 10 11 12 13 75 rfl ?_)))))
 refine Tr.cn rfl ?_ ?_ <;> intro h8 q8
 refine Tr.seq (Tr.regT ?_)
 iterate 4 refine tm rfl ?_
 refine TO.efc 0 rfl rfl (by decide) (ef_callc rfl rfl (by decide) rfl (w_sins5G (by omega) (by omega) hw (by omega) (by omega) (by omega) (by omega)) ⟨ke rfl, ke rfl, ke rfl, ke rfl, trivial⟩) ?_
 refine TO.ex 80 rfl (fun z2 => TO.fact 80 rfl fun hz2 => ?_)
 have hzz := hz2
 refine TO.nil (Fin.go (wk10 0 1 2 3 4 10 11 12 13 80 rfl ?_))
 refine Tr.cn rfl ?_ ?_ <;> intro h9 q9
 have hdone := hps.done (hzz h9)
 refine Tr.ret (Fin.then_ret (Fin.block_ret (Fin.then_ret (Fin.block_ret (Fin.closeL (SortL c a b l) 0 rfl (hdone) (Fin.retM0r rfl))))))
 refine Tr.skip (Fin.fam_same () (by simp_all) (kk9 rfl))
 refine Tr.skip (Fin.fam_same () (by simp_all) (kk9 rfl))
 refine cnt h7 rfl (cnt h7 rfl (co rfl (kpf rfl rfl h7 rfl) (Ch.nil (Fin.go (wk10 0 1 2 3 4 10 11 12 13 75 rfl (Tr.cond rfl (fun h => nomatch h) (fun _ => ?_)))))))
 refine Tr.skip (Fin.fam_same () (by simp_all) (kk9 rfl))
 refine cnt h6 rfl (co rfl (kpf rfl rfl h6 rfl) (cm rfl (cnd rfl rfl (cnd rfl rfl (co rfl (kpf rfl rfl rfl rfl) (Ch.nil (Fin.go (wk10 0 1 2 3 4 10 11 12 13 75 rfl (Tr.cond rfl (fun h => nomatch h) (fun _ => ?_))))))))))
 refine Tr.skip (Fin.fam_same () (by simp_all) (kk9 rfl))
 refine Tr.seq (Tr.seq (Tr.reg1 mixed (by kernel_rfl) (cm rfl (co rfl (ki rfl rfl rfl rfl) (cm rfl ?_)))))
 refine Ch.cs 83 rfl ?_ ?_ <;> intro h10 q10
 refine cym h10 rfl (cym h10 rfl (cym h10 rfl ?_))
 refine cy h10 rfl (ok_sub rfl (vl rfl) (vl rfl) ?hin) ?_; case hin => unfold InI; omega
 refine cy h10 rfl (okp_indexSl rfl Tryz.underlying31 sz26 (vl rfl) (vl rfl) (by omega) (by omega)) (cy h10 rfl (ok_rd 0 rfl (rd_loadA rfl agg26 sz26 (vl rfl) (cells_atG (f := rowF) (fun _ => rfl) (by omega)) rfl)) (cym h10 rfl (cym h10 rfl (cy h10 rfl (okp_indexSl rfl Tryz.underlying31 sz26 (vl rfl) (vl rfl) (by omega) (by omega)) (cy h10 rfl (ok_rd 0 rfl (rd_loadA rfl agg26 sz26 (vl rfl) (cells_atG (f := rowF) (fun _ => rfl) (by omega)) rfl)) (cy h10 rfl (ok_callc (_, _) rfl (vl rfl) ⟨ke rfl, ke rfl, trivial⟩) (cy h10 rfl (ki rfl rfl rfl rfl) (cy h10 rfl (ok_not rfl (vl rfl)) (co rfl (kpt rfl rfl h10 rfl) (Ch.nil (Fin.go (wk10 0 1 2 3 4 10 11 12 13 97 rfl ?_))))))))))))
 refine Tr.cn rfl ?_ ?_ <;> intro h11 q11
 refine Tr.seq (Tr.regT ?_)
 iterate 5 refine tm rfl ?_
 refine TO.efc 0 rfl rfl (by decide) (ef_callc rfl rfl (by decide) rfl (w_speqG (by omega) (by omega) (by omega) (by omega) (by omega) (by omega) (by omega)) ⟨ke rfl, ke rfl, ke rfl, ke rfl, ke rfl, trivial⟩) (TO.openL 0 rfl fun t7 hp7 => ?_)
 have hpl7 := hp7.len
 obtain ⟨hps, hk1, hk2⟩ := hps.eqL hw hls hp7 (by omega) (by omega) rfl (by omega) (by omega) (by omega) (by omega) (by omega) (by assumption)
 refine tm rfl (TO.nil (Fin.go (wk7 0 2 3 4 10 11 15 rfl (Tr.seq (Tr.reg0 (cm rfl (cm rfl (Ch.nil (Fin.go (Tr.exit (Fin.then_exit (Fin.block_here (Fin.famD4V0 (_) (_) ((lim2, (_, _))) (_)  (⟨⟨⟨⟨by omega, by omega, by omega⟩, hlm2, hlm3⟩, by omega, by exact hps⟩, by omega⟩) ⟨ke rfl, ke rfl, ke rfl, ke rfl, ke rfl, ke rfl, ke rfl, trivial⟩ (fun _ _ h => h))))))))))))))
 refine Tr.skip (Fin.go (Tr.seq (Tr.regT ?_)))
 iterate 5 refine tm rfl ?_
 refine TO.efc 0 rfl rfl (by decide) (ef_callc rfl rfl (by decide) rfl (w_spartG (by omega) (by omega) (by omega) (by omega) (by omega) (by omega) (by omega)) ⟨ke rfl, ke rfl, ke rfl, ke rfl, ke rfl, trivial⟩) ?_
 refine TO.ex 111 rfl (fun z3 => TO.fact 111 rfl fun hz3 => ?_)
 refine TO.openL 0 rfl fun t8 hp8 => ?_
 have hpl8 := hp8.len
 obtain ⟨hPm, hPt⟩ := parted_of hw hp8 (by omega) (by omega) (by omega) (by omega)
 have hps := hps.perm hls hPm
 have hk1 := hPt.h1
 have hk2 := hPt.h2
 generalize (PA c a1 b1 pv st3).1 = k at *
 refine tm rfl (tp rfl (ok_extract rfl (vl rfl) rfl) (tp rfl (ok_extract rfl (vl rfl) rfl) (tm rfl (tm rfl (TO.nil (Fin.go (wk8 0 1 2 3 4 12 16 17 rfl (Tr.seq (Tr.reg0 (cm rfl (cm rfl (Ch.nil (Fin.go (Tr.seq ?_))))))))))))))
 refine Tr.reg0 (cm rfl (cm rfl (csu rfl rfl rfl rfl (by omega) (cm rfl (cm rfl (csu rfl rfl rfl rfl (by omega) (cm rfl (cm rfl (Ch.nil (Fin.go (wk10 0 1 2 3 4 11 12 16 18 19 rfl (Tr.seq (Tr.reg0 ?_)))))))))))))
 refine cm rfl (co rfl (ok_quo rfl (vl rfl) (vl rfl) (by omega)) (cm rfl (Ch.nil (Fin.go (Tr.seq (Tr.reg0 (cm rfl (cm rfl (co rfl (ki rfl rfl rfl rfl) (Ch.nil (Fin.go (wk11 0 1 2 3 4 11 16 18 19 20 125 rfl ?_))))))))))))
 refine Tr.cn rfl ?_ ?_ <;> intro h12 q12
 refine Tr.seq (Tr.reg0 (cm rfl (cm rfl (co rfl (ki rfl rfl rfl rfl) (cm rfl (Ch.nil (Fin.go (wk8 0 1 2 3 4 10 11 16 rfl (Tr.seq (Tr.regT ?_))))))))))
 iterate 5 refine tm rfl ?_
 refine TO.efc 0 rfl rfl (by decide) (ef_callc rfl rfl (by decide) rfl (ih (by omega) (by exact hps.belowL (Nat.le_of_lt hPt.h2)) (by omega) (by omega) (by omega) (by omega) (by omega) (by omega)) ⟨ke rfl, ke rfl, ke rfl, ke rfl, ke rfl, trivial⟩) ?_
 refine TO.openL 0 rfl fun t9 hp9 => ?_
 have hpl9 := hp9.len
 have hps := hps.left hw hls hPt hp9.1 hp9.2
 refine TO.nil (Fin.go (wk7 0 2 3 4 10 11 16 rfl (Tr.reg0 (cm rfl (cad rfl rfl rfl rfl (by omega) (cm rfl (Ch.nil (Fin.block (Fin.famD4V0 (_) (_) ((lim2, (_, _))) (_)  (⟨⟨⟨⟨by omega, by omega, by omega⟩, hlm2, hlm3⟩, by omega, by exact hps⟩, by omega⟩) ⟨ke rfl, ke rfl, ke rfl, ke rfl, ke rfl, ke rfl, ke rfl, trivial⟩ (fun _ _ h => h))))))))))
 refine Tr.seq (Tr.reg0 (cm rfl (cm rfl (co rfl (ki rfl rfl rfl rfl) (cm rfl (Ch.nil (Fin.go (wk8 0 1 2 3 4 10 11 16 rfl (Tr.seq (Tr.regT (tm rfl (tm rfl ?_))))))))))))
 refine tp rfl (ok_add rfl (vl rfl) (vl rfl) ?hin) ?_; case hin => unfold InI; omega
 refine tm rfl (tm rfl (tm rfl (TO.efc 0 rfl rfl (by decide) (ef_callc rfl rfl (by decide) rfl (ih (by omega) (by exact hPt.belowR) (by omega) (by omega) (by omega) (by omega) (by omega) (by omega)) ⟨ke rfl, ke rfl, ke rfl, ke rfl, ke rfl, trivial⟩) ?_)))
 refine TO.openL 0 rfl fun t10 hp10 => ?_
 have hpl10 := hp10.len
 have hps := hps.right hw hls hPt hp10.1 hp10.2
 refine TO.nil (Fin.go (wk7 0 1 3 4 10 11 16 rfl (Tr.reg0 (cm rfl (cm rfl (Ch.nil (Fin.block (Fin.famD4V0 (_) (_) ((lim2, (_, _))) (_)  (⟨⟨⟨⟨by omega, by omega, by omega⟩, hlm2, hlm3⟩, by omega, by exact hps⟩, by omega⟩) ⟨ke rfl, ke rfl, ke rfl, ke rfl, ke rfl, ke rfl, ke rfl, trivial⟩ (fun _ _ h => h)))))))))
 iterate 13 refine cnt h10 rfl ?_
 refine co rfl (kpf rfl rfl h10 rfl) (Ch.nil (Fin.go (wk10 0 1 2 3 4 10 11 12 13 97 rfl (Tr.cond rfl (fun h => nomatch h) (fun _ => ?_)))))
 refine Tr.skip (Fin.go (Tr.seq (Tr.regT ?_)))
 iterate 5 refine tm rfl ?_
 refine TO.efc 0 rfl rfl (by decide) (ef_callc rfl rfl (by decide) rfl (w_spartG (by omega) (by omega) (by omega) (by omega) (by omega) (by omega) (by omega)) ⟨ke rfl, ke rfl, ke rfl, ke rfl, ke rfl, trivial⟩) ?_
 refine TO.ex 111 rfl (fun z4 => TO.fact 111 rfl fun hz4 => ?_)
 refine TO.openL 0 rfl fun t11 hp11 => ?_
 have hpl11 := hp11.len
 obtain ⟨hPm, hPt⟩ := parted_of hw hp11 (by omega) (by omega) (by omega) (by omega)
 have hps := hps.perm hls hPm
 have hk1 := hPt.h1
 have hk2 := hPt.h2
 generalize (PA c a1 b1 pv st3).1 = k at *
 refine tm rfl (tp rfl (ok_extract rfl (vl rfl) rfl) (tp rfl (ok_extract rfl (vl rfl) rfl) (tm rfl (tm rfl (TO.nil (Fin.go (wk8 0 1 2 3 4 12 16 17 rfl (Tr.seq (Tr.reg0 (cm rfl (cm rfl (Ch.nil (Fin.go (Tr.seq ?_))))))))))))))
 refine Tr.reg0 (cm rfl (cm rfl (csu rfl rfl rfl rfl (by omega) (cm rfl (cm rfl (csu rfl rfl rfl rfl (by omega) (cm rfl (cm rfl (Ch.nil (Fin.go (wk10 0 1 2 3 4 11 12 16 18 19 rfl (Tr.seq (Tr.reg0 ?_)))))))))))))
 refine cm rfl (co rfl (ok_quo rfl (vl rfl) (vl rfl) (by omega)) (cm rfl (Ch.nil (Fin.go (Tr.seq (Tr.reg0 (cm rfl (cm rfl (co rfl (ki rfl rfl rfl rfl) (Ch.nil (Fin.go (wk11 0 1 2 3 4 11 16 18 19 20 125 rfl ?_))))))))))))
 refine Tr.cn rfl ?_ ?_ <;> intro h13 q13
 refine Tr.seq (Tr.reg0 (cm rfl (cm rfl (co rfl (ki rfl rfl rfl rfl) (cm rfl (Ch.nil (Fin.go (wk8 0 1 2 3 4 10 11 16 rfl (Tr.seq (Tr.regT ?_))))))))))
 iterate 5 refine tm rfl ?_
 refine TO.efc 0 rfl rfl (by decide) (ef_callc rfl rfl (by decide) rfl (ih (by omega) (by exact hps.belowL (Nat.le_of_lt hPt.h2)) (by omega) (by omega) (by omega) (by omega) (by omega) (by omega)) ⟨ke rfl, ke rfl, ke rfl, ke rfl, ke rfl, trivial⟩) ?_
 refine TO.openL 0 rfl fun t12 hp12 => ?_
 have hpl12 := hp12.len
 have hps := hps.left hw hls hPt hp12.1 hp12.2
 refine TO.nil (Fin.go (wk7 0 2 3 4 10 11 16 rfl (Tr.reg0 (cm rfl (cad rfl rfl rfl rfl (by omega) (cm rfl (Ch.nil (Fin.block (Fin.famD4V0 (_) (_) ((lim2, (_, _))) (_)  (⟨⟨⟨⟨by omega, by omega, by omega⟩, hlm2, hlm3⟩, by omega, by exact hps⟩, by omega⟩) ⟨ke rfl, ke rfl, ke rfl, ke rfl, ke rfl, ke rfl, ke rfl, trivial⟩ (fun _ _ h => h))))))))))
 refine Tr.seq (Tr.reg0 (cm rfl (cm rfl (co rfl (ki rfl rfl rfl rfl) (cm rfl (Ch.nil (Fin.go (wk8 0 1 2 3 4 10 11 16 rfl (Tr.seq (Tr.regT (tm rfl (tm rfl ?_))))))))))))
 refine tp rfl (ok_add rfl (vl rfl) (vl rfl) ?hin) ?_; case hin => unfold InI; omega
 refine tm rfl (tm rfl (tm rfl (TO.efc 0 rfl rfl (by decide) (ef_callc rfl rfl (by decide) rfl (ih (by omega) (by exact hPt.belowR) (by omega) (by omega) (by omega) (by omega) (by omega) (by omega)) ⟨ke rfl, ke rfl, ke rfl, ke rfl, ke rfl, trivial⟩) ?_)))
 refine TO.openL 0 rfl fun t13 hp13 => ?_
 have hpl13 := hp13.len
 have hps := hps.right hw hls hPt hp13.1 hp13.2
 refine TO.nil (Fin.go (wk7 0 1 3 4 10 11 16 rfl (Tr.reg0 (cm rfl (cm rfl (Ch.nil (Fin.block (Fin.famD4V0 (_) (_) ((lim2, (_, _))) (_)  (⟨⟨⟨⟨by omega, by omega, by omega⟩, hlm2, hlm3⟩, by omega, by exact hps⟩, by omega⟩) ⟨ke rfl, ke rfl, ke rfl, ke rfl, ke rfl, ke rfl, ke rfl, trivial⟩ (fun _ _ h => h)))))))))
theorem w_spdqG : ∀ (m : Nat) {l : List Fnd} {c : Fnd × Fnd → Int} {b0 cap len : Nat} {sp : List Value} {a b lim : Int}, (hln : l.length = len) → (hll : len ≤ 1000000) → (hw : Go.Sort.SWO (ltc c)) → (hc5 : len < 50) → Go.Sort.Below (ltc c) a.toNat b.toNat l.toArray → 0 ≤ a → a ≤ b → b ≤ len → 0 ≤ lim → lim ≤ 100 → (b - a).toNat < m → FunM Tryz.prog 130 [is (.slice (some ⟨b0, 0, none⟩) len cap), int a, int b, int lim, clo Tryz.prog (fun x : Fnd × Fnd => [agg (rowF x.1), agg (rowF x.2)]) (fun x => int (c x))] (unit_) (cellsRes true b0 26 ((l.map rowF).flatten ++ sp.map is)) (fun _ => relRes b0 26 rowF (SortL c a b l) (sp.map is))
  | 0, _, _, _, _, _, _, _, _, _, _, _, _, _, _, _, _, _, _, _, h => absurd h (Nat.not_lt_zero _)
  | m + 1, _, _, _, _, _, _, _, _, _, hln, hll, hw, hc5, hB, h0, hab, hb, hl0, hl1, hm => w_spdq0G hln hll hw hc5 hB h0 hab hb hl0 hl1 (m + 1) hm (fun h1 h2 h3 h4 h5 h6 h7 h8 => w_spdqG m h1 hll hw hc5 h2 h3 h4 h5 h6 h7 (by omega))

set_option maxRecDepth 20000 in
theorem w_sortG {l : List Fnd} {c : Fnd × Fnd → Int} {b0 cap len : Nat} {sp : List Value}  (hln : l.length = len) (hw : Go.Sort.SWO (ltc c)) (hc5 : len < 50) : FunM Tryz.prog 81 [is (.slice (some ⟨b0, 0, none⟩) len cap), clo Tryz.prog (fun x : Fnd × Fnd => [agg (rowF x.1), agg (rowF x.2)]) (fun x => int (c x))] (unit_) (cellsRes true b0 26 ((l.map rowF).flatten ++ sp.map is)) (fun _ => relRes b0 26 rowF (SortL c 0 len l) (sp.map is)) := by
 refine FunM.of Tryz.func81 rfl rfl (by exact Nat.le_of_ble_eq_true rfl) fun M0 w0 S rs M1 w1 => ?_
 have hw64 : IntKind.u64.wrap ((len : Nat) : Int) = len := IntWalk.u64_in _ ⟨by omega, by omega⟩
 refine Tr.seq (Tr.reg0 (cm rfl (co rfl (okb_len rfl Tryz.underlying31 (vl rfl)) (cm rfl (Ch.nil (Fin.go (Tr.regT (tm rfl (tm rfl (tm rfl (tp rfl (ok_conv rfl Tryz.underlying3 Tryz.underlying150 (vl rfl)) (tp rfl (ok_call rfl (w_BLenx (by omega) (by omega)) ⟨ke rfl, trivial⟩) ?_))))))))))))
 refine TO.ex 11 rfl (fun k => TO.fact 11 rfl fun hk => ?_)
 obtain ⟨hk1, hk2, hk3⟩ := hk
 refine tm rfl (TO.efc 0 rfl rfl (by decide) (ef_callc rfl rfl (by decide) rfl (w_spdqG (len + 1) (by omega) (by omega) hw (by omega) (.inl rfl) (by omega) (by omega) (by omega) (by omega) (by omega) (by omega)) ⟨ke rfl, ke rfl, ke rfl, ke rfl, ke rfl, trivial⟩) (TO.openL 0 rfl fun t1 hp1 => ?_))
 have hpl1 := hp1.len
 refine TO.nil (Fin.closeL (SortL c 0 len l) 0 rfl (hp1) (Fin.retM0 rfl))
set_option maxRecDepth 20000 in
theorem w_insNG {rows : List (List Pr)} {b : Int} (hb : b ≤ 1) : Fun Tryz.prog 190 [slice 11 rows, int 0, int b, any] (unit_) := by
 refine Fun.of Tryz.func190 rfl rfl (by exact Nat.le_of_ble_eq_true rfl) fun M0 w0 => ?_
 refine Tr.seq (Tr.reg0 (cm rfl (cad rfl rfl rfl rfl (by omega) (cm rfl (Ch.nil (Fin.go (Tr.block (Tr.loopw [(0, _), (1, _), (2, _), (3, _)] (kk4 rfl) (fun i : Int => [(8, int i)]) (fun i : Int => i = 1) (fun i : Int => 0) 1 (rfl) ⟨ke rfl, trivial⟩ ?_))))))))
 rintro i hi
 refine Tr.seq (Tr.seq (Tr.reg0 (cm rfl (cm rfl (co rfl (ki rfl rfl rfl rfl) (Ch.nil (Fin.go ?_)))))))
 refine Tr.cn rfl ?_ ?_ <;> intro h1 q1
 have := h1
 exfalso; omega
 have := h1
 refine Tr.exit (Fin.then_exit (Fin.then_exit (Fin.block_here (Fin.ret0 rfl))))
set_option maxRecDepth 20000 in
theorem w_pdqNG {rows : List (List Pr)} {b : Int} (h0 : 0 ≤ b) (hb : b ≤ 1) : Fun Tryz.prog 130 [slice 11 rows, int 0, int b, any, any] (unit_) := by
 refine Fun.of Tryz.func130 rfl rfl (by exact Nat.le_of_ble_eq_true rfl) fun M0 w0 => ?_
 refine Tr.seq (Tr.reg0 (cm rfl (Ch.nil (Fin.go (Tr.seq (Tr.reg0 (cm rfl (Ch.nil (Fin.go (Tr.block (Tr.loopw [(0, _), (4, _)] (kk2 rfl) (fun (u : Unit) => [(1, int 0), (2, int b)]) (fun (u : Unit) => True) (fun (u : Unit) => 0) () (trivial) ⟨ke rfl, ke rfl, trivial⟩ ?_)))))))))))
 rintro u _
 refine Tr.block (Tr.seq (Tr.reg0 (cm rfl (cm rfl (csu rfl rfl rfl rfl (by omega) (cm rfl (Ch.nil (Fin.go (Tr.seq (Tr.seq (Tr.reg0 (cm rfl (co rfl (ki rfl rfl rfl rfl) ?_)))))))))))))
 refine Ch.nil (Fin.go ?_)
 refine Tr.cn rfl ?_ ?_ <;> intro h1 q1
 refine Tr.seq (Tr.reg0 ?_)
 iterate 4 refine cm rfl ?_
 refine co rfl (ok_call rfl (w_insNG (by omega)) ⟨ke rfl, ke rfl, ke rfl, ke rfl, trivial⟩) (Ch.nil (Fin.go (Tr.weak [] trivial (Tr.ret (Fin.then_ret (Fin.block_ret (Fin.then_ret (Fin.block_ret (Fin.ret0r rfl)))))))))
 exfalso; omega
set_option maxRecDepth 20000 in
theorem w_SortNG {rows : List (List Pr)} (hs : rows.length ≤ 1) : Fun Tryz.prog 81 [slice 11 rows, any] (unit_) := by
 refine Fun.of Tryz.func81 rfl rfl (by exact Nat.le_of_ble_eq_true rfl) fun M0 w0 => ?_
 have hw : IntKind.u64.wrap ((rows.length : Nat) : Int) = rows.length := IntWalk.u64_in _ ⟨by omega, by omega⟩
 refine Tr.seq (Tr.reg0 (cm rfl (co rfl (ok_len rfl Tryz.underlying31 (vl rfl)) (cm rfl (Ch.nil (Fin.go (Tr.reg0 (cm rfl (cm rfl (cm rfl (co rfl (ok_conv rfl Tryz.underlying3 Tryz.underlying150 (vl rfl)) (co rfl (ok_call rfl (w_BLenx (by omega) (by omega)) ⟨ke rfl, trivial⟩) (cm rfl ?_)))))))))))))
 refine co rfl (ok_call rfl (w_pdqNG (rows := rows) (b := (rows.length : Int)) (by omega) (by omega)) ⟨ke rfl, ke rfl, ke rfl, ⟨_, rfl, le_any _⟩, ⟨_, rfl, le_any _⟩, trivial⟩) (Ch.nil (Fin.ret0 rfl))
end Go.Proofs.YtgdlhajfajddiaaGreat
namespace Go.Proofs.YtgdlhajfajddiaaGreat
open Go Go.RowKit Cp
/-- A fact. -/
structure Fct where
  ent : Int
  subj : List UInt8
  kind : Int
  alg : Int
  bits : Int
  num : Int
  text : List UInt8
  fnd : Int
deriving DecidableEq
end Go.Proofs.YtgdlhajfajddiaaGreat
namespace Go.Proofs.YtgdlhajfajddiaaGreat
open Go Go.RowKit Cp

def alikeF (x y : Fct) : Bool := decide (x.ent = y.ent ∧ x.subj = y.subj ∧ x.kind = y.kind ∧ x.alg = y.alg ∧ x.bits = y.bits ∧ x.num = y.num ∧ x.text = y.text)
/-- The facts of l that are not in o. -/
def without (o : List Fct) (l : List Fct) : List Fct := l.filter fun x => !(o.any (alikeF x))
end Go.Proofs.YtgdlhajfajddiaaGreat
namespace Go.Proofs.YtgdlhajfajddiaaGreat
open Go Go.RowKit Cp

end Go.Proofs.YtgdlhajfajddiaaGreat
namespace Go.Proofs.YtgdlhajfajddiaaGreat
open Go Go.RowKit Cp

end Go.Proofs.YtgdlhajfajddiaaGreat
namespace Go.Proofs.YtgdlhajfajddiaaGreat
open Go Go.RowKit Cp

end Go.Proofs.YtgdlhajfajddiaaGreat
namespace Go.Proofs.YtgdlhajfajddiaaGreat
open Go Go.RowKit Cp

end Go.Proofs.YtgdlhajfajddiaaGreat
namespace Go.Proofs.YtgdlhajfajddiaaGreat
open Go Go.RowKit Cp

end Go.Proofs.YtgdlhajfajddiaaGreat
namespace Go.Proofs.YtgdlhajfajddiaaGreat
open Go Go.RowKit Cp
instance : Inhabited Fct := ⟨⟨0, [], 0, 0, 0, 0, [], 0⟩⟩
end Go.Proofs.YtgdlhajfajddiaaGreat
namespace Go.Proofs.YtgdlhajfajddiaaGreat
open Go Go.RowKit Cp
end Go.Proofs.YtgdlhajfajddiaaGreat
namespace Go.Proofs.YtgdlhajfajddiaaGreat
open Go Go.RowKit Cp

end Go.Proofs.YtgdlhajfajddiaaGreat
namespace Go.Proofs.YtgdlhajfajddiaaGreat
open Go Go.RowKit Cp

end Go.Proofs.YtgdlhajfajddiaaGreat
namespace Go.Proofs.YtgdlhajfajddiaaGreat
open Go Go.RowKit Cp

end Go.Proofs.YtgdlhajfajddiaaGreat
namespace Cp
open Go Go.RowKit Go.Great
section
variable {P : Program} {n : Nat} {E : Env} {M0 : Av} {w0 : World} {S : Nat → Prop} {rs : List Res} {o : Oper}
/-- m elements of ours, and room behind them, of which nothing is said. -/
def zeroRes (e : TypeId) (sz m : Nat) (v : Value) : Res where
  blk := match v with | .slice (some a) _ _ => some a.block | _ => none
  new := true
  h M w := ∃ (b cap : Nat) (sp : List Value), v = .slice (some ⟨b, 0, none⟩) m cap ∧ m ≤ cap ∧ cap ≤ maxLen ∧ sp.length = cap * sz ∧ (cellsRes true b e (sp.map is)).h M w
  st M w M' w' he hk h := by
    obtain ⟨b, cap, sp, rfl, h1, h2, h3, h4⟩ := h
    exact ⟨b, cap, sp, rfl, h1, h2, h3, (cellsRes true b e (sp.map is)).st M w M' w' he hk h4⟩
theorem app_zero {M : Av} {w : World} {t tn ty e : TypeId} {sz bytes : Nat} {zs : List Value} {m : Nat} {j : Nat} {kn : IntKind} (ht : P.underlying t = some (.slice e)) (htn : P.underlying tn = some (.int kn)) (hz : sizeB P e = some sz) (hby : bytesB P e = some bytes) (hze : zeroB P e = some zs) (hzl : zs.length = sz) (hone : zs.all (·.oneCell') = true) (hsz : 0 < sz)
    (h : HpH M0 w0 S rs M w) (hj : rs[j]? = some noRes) (hpos : 0 < m) (hmax : m ≤ maxLen) (hfit : m * bytes ≤ 140737488355328) :
    ∃ v' w' M', (Builtin.append_ #[t, tn] ty #[.slice none 0 0, .int .i64 (m : Nat)]).run P w = .ok v' w' ∧ (lens m).h M' w' v' ∧ Ext M w M' w' ∧ HpH M0 w0 S (rs.set j (zeroRes e sz m v')) M' w' := by
  unfold sizeB at hz
  unfold bytesB at hby
  unfold zeroB at hze
  cases hi : P.info? e with
  | none => rw [hi] at hz; cases hz
  | some i =>
    rw [hi] at hz hby hze
    simp only [Option.map_some, Option.some.injEq, Option.map_eq_some_iff] at hz hby hze
    obtain ⟨z, hzz, hze⟩ := hze
    have hzc : z.cells.size = sz := by rw [← hzl, ← hze]; simp
    have hrun := Lib.run_append_nil_zeros (P := P) w t tn ty e i z .i64 kn ht htn hi hzz m hpos (by rw [hz]; exact hsz) (by unfold maxLen at hmax; omega) (by rw [hby]; omega)
    generalize hcap : grownCap w m 0 e = cap at hrun
    have hge : m ≤ cap := by rw [← hcap]; exact grownCap_ge _ _ _ _
    have hle : cap ≤ maxLen := by rw [← hcap]; exact grownCap_le_maxLen _ _ _ _ hmax
    generalize hcs : (Builtin.zeroCells z.cells m ++ Builtin.zeroCells z.cells (cap - m)) = cs at hrun
    have hsize : cs.toList.length = cap * sz := by
      rw [← hcs, Array.length_toList, Array.size_append, size_zeroCells, size_zeroCells, hzc, ← Nat.add_mul]; congr 1; omega
    have hone' : ∀ c ∈ cs.toList, c.oneCell' = true := by
      intro c hc
      rw [← hcs, Array.toList_append] at hc
      rcases List.mem_append.1 hc with hc | hc
      · exact zeroCells_one hze hone c hc
      · exact zeroCells_one hze hone c hc
    have hb : Below w.heap.size w (w.drew.alloc (.cells cs e)) := ((Below.refl _ _).drew).alloc (Nat.le_refl _) _
    have h2 := Ext.below (M := M) hb
    have hext : Ext M w (fun b o => M b o ∨ b = w.heap.size) (w.drew.alloc (.cells cs e)) := by
      refine ⟨h2.size, fun a v hc hm => ⟨fun hx => ?_, (h2.keep a v hc hm).2⟩, fun b o ho hp hm => ⟨fun hx => ?_, (h2.obj b o ho hp hm).2⟩⟩
      · rcases hx with hx | hx
        · exact hm hx
        · have := cell_lt hc; omega
      · rcases hx with hx | hx
        · exact hm hx
        · subst hx; simp at ho
    have hs1 : (w.drew.alloc (.cells cs e)).heap.size = w.heap.size + 1 := by simp
    refine ⟨_, _, fun b o => M b o ∨ b = w.heap.size, hrun, ⟨_, _, rfl⟩, hext, ?_⟩
    refine h.replace hj hext hb.os hb.tape hb.output (fun k hk _ => hb.block k hk) rfl (fun b o hm _ => .inl hm) (fun b o hx => ?_) ?_ rfl (fun b hbk => ?_)
    · rcases hx with hx | hx
      · have := h.bd _ _ hx; omega
      · omega
    · refine ⟨w.heap.size, cap, cs.toList, rfl, hge, hle, hsize, fun o => .inr rfl, cs.toList, ?_, hl_is _ _ _, hone'⟩
      have hh : (w.drew.alloc (.cells cs e)).heap[w.heap.size]? = some (.cells cs e (0, 0)) := heap_alloc_new w.drew _
      rw [hh]
    · have hbk' : some w.heap.size = some b := hbk
      injection hbk' with e1
      subst e1
      exact ⟨by rw [hs1]; omega, .inr (Nat.le_refl _)⟩
theorem ef_appzero {t tn e : TypeId} {x y : Operand} {sz bytes d : Nat} {zs : List Value} {m : Nat} {i : Int} {j : Nat} {kn : IntKind} (hg : o.guard = none) (hd : o.dst = some d) (hn : d < n) (ho : o.op = .call { callee := .builtin .append, args := #[x, y], argTypes := #[t, tn] })
    (ht : P.underlying t = some (.slice e)) (htn : P.underlying tn = some (.int kn)) (hz : sizeB P e = some sz) (hby : bytesB P e = some bytes) (hze : zeroB P e = some zs) (hzl : zs.length = sz) (hone : zs.all (·.oneCell') = true) (hsz : 0 < sz)
    (hx : VL E x (is (.slice none 0 0))) (hy : VL E y (int i)) (hi : i = (m : Nat)) (hpos : 0 < m) (hmax : m ≤ maxLen) (hfit : m * bytes ≤ 140737488355328) : OpEf P M0 w0 S n j (SR.c noRes) ⟨d, zeroRes e sz m⟩ o E (lens m) := by
  refine ⟨hg, fun M w a rs hszn he hI hj => ?_⟩
  have h1 : a.eval x = .slice none 0 0 := hx.ev he (by simp [ho, Op.operands, Call.operands])
  have h2 : a.eval y = .int .i64 i := hy.ev he (by simp [ho, Op.operands, Call.operands])
  obtain ⟨v', w', M', hrun, h3, h4, h5⟩ := app_zero (ty := o.type) ht htn hz hby hze hzl hone hsz hI hj hpos hmax hfit
  have hrun2 : (execOp a.eval o).run P w = .ok (.value v') w' := by rw [hi] at h2; simp [execOp, ho, resolve, invoke, builtin, h1, h2, hrun]
  rw [hrun2]
  refine ⟨M', h3, h4, ?_⟩
  have : (SR.at_ (a.put o.dst v') ⟨d, zeroRes e sz m⟩) = zeroRes e sz m v' := by unfold SR.at_ Slot.val; dsimp only; rw [hd, put_same (by rw [hszn]; exact hn)]
  rw [this]; exact h5
theorem TO.openZ {Q : Exit → Act → World → Prop} {ops : Array Oper} {r : List Oper} {e : TypeId} {sz m : Nat} {v : Value} {p : Pr} (j d : Nat) (hj : rs[j]? = some (zeroRes e sz m v)) (hd : E.lookup d = some (andIs v p))
    (k : ∀ (b cap : Nat) (sp : List Value), m ≤ cap → cap ≤ maxLen → sp.length = cap * sz → TO P n ops r ((d, is (.slice (some ⟨b, 0, none⟩) m cap)) :: E) (Hp M0 w0 S (rs.set j (cellsRes true b e (sp.map is)))) Q) : TO P n ops r E (Hp M0 w0 S rs) Q := by
  intro m' hl a w hs
  obtain ⟨M, h1, h2, h3, h4⟩ := hs
  have h4 : HpH M0 w0 S rs M w := h4
  obtain ⟨b, cap, sp, rfl, h5, h6, h7, h8⟩ := (h4.hold _ (List.mem_of_getElem? hj)).1
  refine k b cap sp h5 h6 h7 m' hl a w ⟨M, h1, h2, fun s q hq => ?_, h4.swap1 hj rfl rfl h8⟩
  simp only [List.lookup] at hq
  split at hq
  · rename_i e1
    have : s = d := by simpa using e1
    subst this
    simp only [Option.some.injEq] at hq
    subst hq
    exact (h3 _ _ hd).1
  · exact h3 s q hq
theorem ok_capnil {I : Asn} {t e : TypeId} {x : Operand} (ho : o.op = .call { callee := .builtin .cap, args := #[x], argTypes := #[t] }) (ht : P.underlying t = some (.slice e)) (hx : VL E x (is (.slice none 0 0))) : OpOK P I o E (int 0) :=
  OpOK.same fun M w a he _ => by
    have h1 : a.eval x = .slice none 0 0 := hx.ev he (by simp [ho, Op.operands, Call.operands])
    exact ⟨_, by simp [execOp, ho, resolve, invoke, builtin, h1, Builtin.cap_, run_underlying ht]; rfl, rfl⟩
theorem ok_lennil {I : Asn} {t e : TypeId} {x : Operand} (ho : o.op = .call { callee := .builtin .len, args := #[x], argTypes := #[t] }) (ht : P.underlying t = some (.slice e)) (hx : VL E x (is (.slice none 0 0))) : OpOK P I o E (int 0) :=
  OpOK.le (ok_len (sz := 1) (rows := []) ho ht (VL.le hx (nil_slice 1))) (Pr.le_refl _)
theorem ok_slicenil {I : Asn} {t e : TypeId} {x y : Operand} {k : IntKind} {sz : Nat} (ho : o.op = .slice t x none (some y) none) (ht : P.underlying t = some (.slice e)) (hz : sizeB P e = some sz) (hx : VL E x (is (.slice none 0 0))) (hy : VL E y (is (.int k 0))) : OpOK P I o E (is (.slice none 0 0)) :=
  OpOK.same fun M w a he _ => by
    have h1 : a.eval x = .slice none 0 0 := hx.ev he (by simp [ho, Op.operands])
    have h2 : a.eval y = .int k 0 := hy.ev he (by simp [ho, Op.operands])
    exact ⟨_, by simp [execOp, ho, h1, h2, Instr.sliceAt, Instr.slice, Instr.sliceBounds, Instr.sliceBound, asIntOf, run_underlying ht, run_size hz], rfl⟩
end
end Cp
namespace Go.Proofs.YtgdlhajfajddiaaGreat
open Go Go.RowKit Cp
set_option maxRecDepth 20000 in
theorem w_compG {l : List Fnd} {b0 cap len : Nat} {sp : List Value} (hln : l.length = len) (hll : len ≤ 1000000) (hcap : len ≤ cap) (hm : cap ≤ maxLen) : FunM Tryz.prog 83 [is (.slice (some ⟨b0, 0, none⟩) len cap)] (is (.slice (some ⟨b0, 0, none⟩) (ddL l).length cap)) (cellsRes true b0 26 ((l.map rowF).flatten ++ sp.map is)) (fun _ => cellsRes true b0 26 (((ddL l).map rowF).flatten ++ ((List.replicate (l.length - (ddL l).length) (([.int .i64 0, .string (ByteArray.mk #[]), .int .i64 0, .int .i64 0, .int .i64 0, .int .i64 0, .string (ByteArray.mk #[]), .int .i64 0, .int .i64 0, .int .i64 0, .string (ByteArray.mk #[])] : List Value).map is)).flatten ++ sp.map is))) := by
 refine FunM.of Tryz.func83 rfl rfl (by exact Nat.le_of_ble_eq_true rfl) fun M0 w0 S rs M1 w1 => ?_
 have hmx : cap ≤ 9223372036854775807 := by unfold maxLen at hm; omega
 refine Tr.seq (Tr.reg0 (cm rfl (Ch.nil (Fin.go (Tr.seq (Tr.seq (Tr.reg0 (cm rfl (co rfl (okb_len rfl Tryz.underlying31 (vl rfl)) (co rfl (ki rfl rfl rfl rfl) (Ch.nil (Fin.go ?_))))))))))))
 refine Tr.cn rfl ?_ ?_ <;> intro h1 q1
 refine Tr.seq (Tr.reg0 (cm rfl (cm rfl (Ch.nil (Fin.go (Tr.ret (Fin.then_ret ?_)))))))
 refine Fin.retM1 rfl rfl ?_ (fun _ _ _ _ => by rw [ddL_short (by omega), Nat.sub_self]; rfl)
 · refine Pr.le_of_eq ?_; rw [ddL_short (by omega), hln]
 refine Tr.skip (Fin.go (Tr.seq (Tr.seq (Tr.reg0 (cm rfl (Ch.nil (Fin.go (Tr.block ?_))))))))
 refine Tr.loopD1V0 [(0, _)] ⟨ke rfl, trivial⟩ (fun (k : Nat) => [(3, int ((k : Nat) : Int))]) (fun (k : Nat) => Hp M0 w0 S (cellsRes true b0 26 ((l.map rowF).flatten ++ sp.map is) :: extRes M1 w1 :: rs)) (fun (k : Nat) => (1 ≤ k ∧ k ≤ len) ∧ ddL (l.take k) = l.take k) (fun (k : Nat) => len - k) (1)  (⟨⟨by omega, by omega⟩, ddL_short (by rw [List.length_take]; omega)⟩) ⟨ke rfl, trivial⟩ (fun _ _ h => h) ?_
 rintro k  ⟨⟨hk1, hk2⟩, hdd⟩
 refine Tr.seq (Tr.seq (Tr.reg0 (cm rfl (cm rfl (co rfl (okb_len rfl Tryz.underlying31 (vl rfl)) (co rfl (ki rfl rfl rfl rfl) (Ch.nil (Fin.go ?_))))))))
 refine Tr.cn rfl ?_ ?_ <;> intro h2 q2
 have hkl : k < len := by have := of_decide_eq_true h2; omega
 obtain ⟨x, hx⟩ := at_ (l := l) (k := k) (by omega)
 obtain ⟨p, hp⟩ := at_ (l := l) (k := k - 1) (by omega)
 refine Tr.skip (Fin.go (Tr.seq (Tr.block (Tr.seq (Tr.reg1 mixed (by kernel_rfl) (cm rfl (cm rfl (co rfl (okp_indexSl rfl Tryz.underlying31 sz26 (vl rfl) (vl rfl) (by omega) (by omega)) ?_))))))))
 refine co rfl (ok_rd 0 rfl (rd_loadA rfl agg26 sz26 (vl rfl) (cells_atI (fun _ => rfl) (by rw [Int.toNat_natCast]; exact hx)) rfl)) ?_
 refine cm rfl (cm rfl (csu rfl rfl rfl rfl (by omega) (co rfl (okp_indexSl rfl Tryz.underlying31 sz26 (vl rfl) (vl rfl) (by omega) (by omega)) ?_)))
 refine co rfl (ok_rd 0 rfl (rd_loadA rfl agg26 sz26 (vl rfl) (cells_atI (fun _ => rfl) (by rw [show ((k : Int) - 1).toNat = k - 1 by omega]; exact hp)) rfl)) ?_
 refine co rfl (ok_eq26 rfl (vl rfl) (vl rfl)) (Ch.nil (Fin.go (wk3 0 3 25 rfl ?_)))
 refine Tr.cn rfl ?_ ?_ <;> intro h3 q3
 refine Tr.seq (Tr.reg0 (cm rfl (cm rfl (co rfl (okb_sliceFrom rfl Tryz.underlying31 sz26 (vl rfl) (vl rfl) (by omega) (by omega) (by omega)) (cm rfl (Ch.nil (Fin.go (Tr.seq (Tr.seq (Tr.reg0 (cm rfl (Ch.nil (Fin.go (Tr.block ?_))))))))))))))
 refine Tr.loopD3V0 [(0, _), (4, _)] ⟨ke rfl, ke rfl, trivial⟩ (fun (st : List Fnd) (w : Nat) (j : Nat) => [(3, int ((w : Nat) : Int)), (5, int ((j : Nat) : Int))]) (fun (st : List Fnd) (w : Nat) (j : Nat) => Hp M0 w0 S (cellsRes true b0 26 ((st.map rowF).flatten ++ sp.map is) :: extRes M1 w1 :: rs)) (fun (st : List Fnd) (w : Nat) (j : Nat) => (st.length = len ∧ k ≤ w ∧ 1 ≤ j ∧ k + j ≤ len ∧ w + 1 ≤ k + j) ∧ st.take w = ddL (l.take (k + j)) ∧ ∀ i, k + j ≤ i + 1 → st[i]? = l[i]?) (fun (st : List Fnd) (w : Nat) (j : Nat) => len - (k + j)) (l) (k) (1)  (⟨⟨hln, Nat.le_refl _, Nat.le_refl _, by omega, by omega⟩, by rw [ddL_same (by omega) hx hp (fnd_iff.2 (by assumption)), hdd], fun _ _ => rfl⟩) ⟨ke rfl, ke rfl, trivial⟩ (fun _ _ h => h) ?_
 rintro st w j  ⟨⟨hsl, hw1, hj1, hj2, hw2⟩, htk, hst⟩
 refine Tr.seq (Tr.seq (Tr.reg0 (cm rfl (cm rfl (co rfl (okb_len rfl Tryz.underlying31 (vl rfl)) (co rfl (ki rfl rfl rfl rfl) (Ch.nil (Fin.go ?_))))))))
 refine Tr.cn rfl ?_ ?_ <;> intro h4 q4
 have hjl : k + j < len := by have := of_decide_eq_true h4; omega
 obtain ⟨u, hu⟩ := at_ (l := l) (k := k + j) (by omega)
 obtain ⟨v, hv⟩ := at_ (l := l) (k := k + j - 1) (by omega)
 have hu2 : st[k + j]? = some u := (hst _ (by omega)).trans hu
 have hv2 : st[k + j - 1]? = some v := (hst _ (by omega)).trans hv
 refine Tr.skip (Fin.go (Tr.seq (Tr.block (Tr.seq (Tr.reg1 mixed (by kernel_rfl) (cm rfl (cm rfl (co rfl (okp_indexSl rfl Tryz.underlying31 sz26 (vl rfl) (vl rfl) (by omega) (by omega)) ?_))))))))
 refine co rfl (ok_rd 0 rfl (rd_loadA rfl agg26 sz26 (vl rfl) (cells_atO (fun _ => rfl) (by rw [Int.toNat_natCast, Int.toNat_natCast]; exact hu2)) rfl)) ?_
 refine cm rfl (cm rfl (csu rfl rfl rfl rfl (by omega) (co rfl (okp_indexSl rfl Tryz.underlying31 sz26 (vl rfl) (vl rfl) (by omega) (by omega)) ?_)))
 refine co rfl (ok_rd 0 rfl (rd_loadA rfl agg26 sz26 (vl rfl) (cells_atO (fun _ => rfl) (by rw [Int.toNat_natCast, show k + ((j : Int) - 1).toNat = k + j - 1 by omega]; exact hv2)) rfl)) ?_
 refine co rfl (ok_ne26 rfl (vl rfl) (vl rfl)) (Ch.nil (Fin.go (wk5 0 3 4 5 44 rfl ?_)))
 refine Tr.cn rfl ?_ ?_ <;> intro h5 q5
 refine Tr.seq (Tr.regT ?_)
 iterate 4 refine tm rfl ?_
 refine tp rfl (okp_indexSl rfl Tryz.underlying31 sz26 (vl rfl) (vl rfl) (by omega) (by omega)) ?_
 refine TO.rd 0 rfl rfl rfl (by decide) (rd_loadA rfl agg26 sz26 (vl rfl) (cells_atO (fun _ => rfl) (by rw [Int.toNat_natCast, Int.toNat_natCast]; exact hu2)) rfl) ?_
 refine tp rfl (okp_indexSl rfl Tryz.underlying31 sz26 (vl rfl) (vl rfl) (by omega) (by omega)) ?_
 refine TO.ef0 0 rfl rfl (ef_store rfl rfl (vl rfl) (VL.le (vl rfl) (agg_cellsP _)) sz26 rfl (by rw [cells_len (sz := 11) (fun _ => rfl)]; omega) (cells_setN (f := rowF) (fun _ => rfl) (by omega))) ?_
 refine TO.nil (Fin.go (Tr.reg0 (cm rfl (cad rfl rfl rfl rfl (by omega) (cm rfl (Ch.nil (Fin.block (Fin.go (wk4 0 3 4 5 rfl (Tr.reg0 (cm rfl (cad rfl rfl rfl rfl (by omega) (cm rfl ?_)))))))))))))
 refine Ch.nil ?_
 exact Fin.famD3V0 (st.set w u) (w + 1) (j + 1)  (⟨⟨⟨by rw [List.length_set]; exact hsl, by omega, by omega, by omega, by omega⟩, by rw [set_take (by omega), htk]; exact (ddL_ne (j := k + j) (by omega) hu hv (fun e => absurd (fnd_iff.1 e) (by assumption))).symm, fun i hi => by rw [List.getElem?_set_ne (by omega)]; exact hst i (by omega)⟩, by omega⟩) ⟨⟨_, rfl, int_succ w⟩, ⟨_, rfl, int_succ j⟩, ke rfl, ke rfl, trivial⟩ (fun _ _ h => h)
 refine Tr.skip (Fin.block (Fin.go (Tr.reg0 (cm rfl (cad rfl rfl rfl rfl (by omega) (cm rfl (Ch.nil (Fin.famD3V0 (st) (w) (j + 1)  (⟨⟨⟨hsl, by omega, by omega, by omega, by omega⟩, htk.trans (ddL_same (j := k + j) (by omega) hu hv (fnd_iff.2 (by assumption))).symm, fun i hi => hst i (by omega)⟩, by omega⟩) ⟨ke rfl, ⟨_, rfl, int_succ j⟩, ke rfl, ke rfl, trivial⟩ (fun _ _ h => h)))))))))
 have hje : k + j = len := by have := of_decide_eq_false h4; omega
 have hE : st.take w = ddL l := by rw [htk, hje, ← hln, List.take_length]
 have hW : (ddL l).length = w := by rw [← hE, List.length_take]; omega
 refine Tr.exit (Fin.then_exit (Fin.then_exit (Fin.block_here (Fin.go (Tr.seq (Tr.regT (tm rfl (tm rfl (tp rfl (okb_sliceFrom rfl Tryz.underlying31 sz26 (vl rfl) (vl rfl) (by omega) (by omega) (by omega)) ?_)))))))))
 refine TO.ef0 0 rfl rfl (ef_clear rfl rfl Tryz.underlying31 sz26 z26 rfl (by decide) (by decide) (vl rfl) (by omega) (by rw [cells_len (sz := 11) (fun _ => rfl)]; omega) (cells_clearR (f := rowF) (sz := 11) (l := st) (i := w) (fun _ => rfl) rfl (by omega) (by omega))) ?_
 refine TO.nil (Fin.go (Tr.seq (Tr.reg0 (cm rfl (cm rfl (co rfl (okb_sliceTo rfl Tryz.underlying31 sz26 (vl rfl) (vl rfl) (by omega) (by omega) (by omega) (by omega)) (cm rfl (Ch.nil (Fin.go (wk1 2 rfl (Tr.ret (Fin.block_ret (Fin.then_ret (Fin.then_ret ?_))))))))))))))
 refine Fin.block_ret (Fin.then_ret (Fin.retM1 rfl rfl ?_ (fun _ _ _ _ => by rw [hW, ← hE, hln, ← hsl, List.append_assoc])))
 · refine Pr.le_of_eq ?_; rw [hW, Int.toNat_natCast]
 refine Tr.skip (Fin.block (Fin.go (Tr.reg0 (cm rfl (cad rfl rfl rfl rfl (by omega) (cm rfl (Ch.nil ?_)))))))
 exact Fin.famD1V0 (k + 1)  (⟨⟨⟨by omega, by omega⟩, by rw [ddL_ne (by omega) hx hp (fun e => absurd (fnd_iff.1 e) (by assumption)), hdd, List.take_add_one, hx]; rfl⟩, by omega⟩) ⟨⟨_, rfl, int_succ k⟩, ke rfl, trivial⟩ (fun _ _ h => h)
 have hke : k = len := by have := of_decide_eq_false h2; omega
 refine Tr.exit (Fin.then_exit (Fin.then_exit (Fin.block_here (Fin.go (Tr.seq (Tr.reg0 (cm rfl (cm rfl (Ch.nil (Fin.go (Tr.ret ?_)))))))))))
 refine Fin.retM1 rfl rfl ?_ (fun _ _ _ _ => by rw [show ddL l = l by rw [hke, ← hln, List.take_length] at hdd; exact hdd, Nat.sub_self]; rfl)
 · refine Pr.le_of_eq ?_; rw [show ddL l = l by rw [hke, ← hln, List.take_length] at hdd; exact hdd, hln]
set_option maxRecDepth 20000 in
theorem w_cloneG {l : List Fnd} (h0 : l ≠ []) (hl : l.length ≤ 100000) : FunM Tryz.prog 80 [slice 11 (l.map rowF)] (lens (l.map rowF).length) (noRes) (fun v => mutRes 26 11 (l.map rowF) v) := by
 refine FunM.of Tryz.func80 rfl rfl (by exact Nat.le_of_ble_eq_true rfl) fun M0 w0 S rs M1 w1 => ?_
 have hpos : 0 < l.length := List.length_pos_iff.2 h0
 refine Tr.seq (Tr.reg0 (cm rfl (Ch.nil (Fin.go (Tr.seq (Tr.seq (Tr.reg0 (cm rfl (co rfl (ok_eqnil rfl Tryz.underlying31 (vl rfl)) (Ch.nil (Fin.go (Tr.ex 4 rfl (fun z1 => Tr.fact 4 rfl fun hz1 => ?_)))))))))))))
 refine Tr.cn rfl ?_ ?_ <;> intro h1 q1
 exfalso; have := hz1 h1; simp_all
 refine Tr.skip (Fin.go (Tr.seq (Tr.regT (tp rfl (ok_buildSlice (xs := []) (rows := []) rfl rfl Tryz.underlying31 sz26 z26 rfl (by decide) trivial (by decide)) (tm rfl (TO.pad ?_))))))
 refine TO.efs 0 rfl rfl (by decide) (ef_appvoid rfl rfl (by decide) rfl Tryz.underlying31 sz26 by26 z26 rfl (by decide) (by decide) (vl rfl) (vl rfl) (by rw [List.length_map]; exact hpos) (by rw [List.length_map]; unfold maxLen; omega) (by rw [List.length_map]; omega)) (fun v1 => ?_)
 refine tm rfl (TO.nil (Fin.go (Tr.ret (Fin.drop 1 ?_))))
 refine Fin.retM1 rfl rfl ?_ (by intro _ _ _ h; rw [h.1])
 · exact andIs_le _ _
set_option maxRecDepth 20000 in
theorem w_growG {n : Nat} (h0 : 0 < n) (hn : n ≤ 100000) : FunM Tryz.prog 147 [is (.slice none 0 0), int ((n : Nat) : Int)] (slice 11 []) (noRes) (fun v => appRes 26 11 v) := by
 refine FunM.of Tryz.func147 rfl rfl (by exact Nat.le_of_ble_eq_true rfl) fun M0 w0 S rs M1 w1 => ?_
 refine Tr.seq (Tr.reg0 (cm rfl (Ch.nil (Fin.go (Tr.seq (Tr.seq (Tr.reg0 (cm rfl (co rfl (ki rfl rfl rfl rfl) (Ch.nil (Fin.go ?_)))))))))))
 refine Tr.cn rfl ?_ ?_ <;> intro h1 q1
 exfalso; omega
 refine Tr.skip (Fin.go (Tr.seq (Tr.seq (Tr.reg0 (cm rfl (cm rfl (co rfl (ok_capnil rfl Tryz.underlying31 (vl rfl)) (cm rfl (co rfl (ok_lennil rfl Tryz.underlying31 (vl rfl)) (csu rfl rfl rfl rfl (by omega) (csu rfl rfl rfl rfl (by omega) (cm rfl (Ch.nil (Fin.go ?_))))))))))))))
 refine Tr.seq (Tr.reg0 (cm rfl (co rfl (ki rfl rfl rfl rfl) (Ch.nil (Fin.go ?_)))))
 refine Tr.cn rfl ?_ ?_ <;> intro h2 q2
 refine Tr.regT (tm rfl (tm rfl (tp rfl (ok_capnil rfl Tryz.underlying31 (vl rfl)) (tp rfl (ok_slicenil rfl Tryz.underlying31 sz26 (vl rfl) (vl rfl)) (tm rfl (TO.pad ?_))))))
 refine TO.efs 0 rfl rfl (by decide) (ef_appzero rfl rfl (by decide) rfl Tryz.underlying31 Tryz.underlying3 sz26 by26 z26 rfl (by decide) (by decide) (vl rfl) (vl rfl) (m := n) (by omega) h0 (by unfold maxLen; omega) (by omega)) (fun v1 => ?_)
 refine TO.openZ 0 22 rfl rfl (fun b1 cap1 sp1 hg1 hm1 hs1 => ?_)
 refine tm rfl (tp rfl (ok_lennil rfl Tryz.underlying31 (vl rfl)) (tp rfl (okb_sliceTo rfl Tryz.underlying31 sz26 (vl rfl) (vl rfl) (by omega) (by omega) (by omega) (by omega)) (tm rfl (TO.nil (Fin.go (wk1 0 rfl (Tr.seq (Tr.reg0 (cm rfl (cm rfl (Ch.nil (Fin.go (Tr.ret ?_)))))))))))))
 refine Fin.frzS (sz := 11) ([] : List (List Pr)) 0 4 rfl rfl (Pr.le_refl _) (by simp) (Nat.zero_le _) hm1 (by rw [List.length_map, hs1]; rfl) ?_
 refine Fin.drop 1 ?_
 refine Fin.retM1 rfl rfl ?_ (by intro _ _ _ h; rw [h.1])
 · exact andIs_le _ _
 exfalso; omega
set_option maxRecDepth 20000 in
theorem w_FNormN {l : List Fnd} (hc : ∀ f ∈ l, checkF f = true) (hf : ∀ f ∈ l, f.fits) (h0 : l ≠ []) (hl : l.length < 50) : Fun Tryz.prog 29 [fnds l] (tup [fnds (normL l), int 0]) := by
 refine Fun.of Tryz.func29 rfl rfl (by exact Nat.le_of_ble_eq_true rfl) fun M0 w0 => ?_
 refine Tr.seq (Tr.reg0 (cm rfl (cm rfl (Ch.nil (Fin.go (Tr.seq (Tr.seq (Tr.reg0 (cm rfl (co rfl (ok_lenm rfl Tryz.underlying31 (vl rfl)) (cm rfl (Ch.nil (Fin.go (Tr.block ?_))))))))))))))
 refine Tr.loopw [(0, _), (8, _), (9, _)] (kk3 rfl) (fun k : Nat => [(10, int ((k : Nat) : Int))]) (fun k : Nat => k ≤ (l).length) (fun k : Nat => (l).length - k) 0 (Nat.zero_le _) ⟨ke rfl, trivial⟩ ?_
 rintro k hle_k
 refine Tr.seq (Tr.reg0 (co rfl (ki rfl rfl rfl rfl) (Ch.nil (Fin.go (Tr.seq ?_)))))
 refine Tr.cn rfl ?_ ?_ <;> intro h1 q1
 have hk_k : k < (l).length := lt_of_dec h1
 obtain ⟨x, hx_k⟩ := at_ hk_k
 have hfx := hf x (List.mem_of_getElem? hx_k)
 refine Tr.skip (Fin.go (Tr.seq (Tr.block (Tr.seq (Tr.regT (tp rfl (ok_indexAddr rfl Tryz.underlying31 sz26 (vl rfl) (vl rfl) (by omega) (by exact row_at (by assumption))) ?_))))))
 refine tp rfl (ok_loadA rfl agg26 sz26 (vl rfl) rfl rfl) ?_
 refine TO.alloc rfl rfl (by decide) rfl z26 zo26 (fun b1 => ?_)
 refine TO.store_all 0 rfl rfl rfl (vl rfl) (VL.le (vl rfl) (agg_cellsP _)) rfl sz26 rfl rfl (TO.freeze 0 5 rfl rfl (TO.nil (Fin.go (Tr.seq (Tr.reg0 (co rfl (ok_loadA rfl agg26 sz26 (vl rfl) rfl rfl) (co rfl (ok_call rfl (w_FCheck (by assumption)) ⟨ke rfl, trivial⟩) (cm rfl (Ch.nil (Fin.go (Tr.seq (Tr.reg0 (cm rfl ?_)))))))))))))
 refine co rfl (ki rfl rfl rfl rfl) (Ch.nil (Fin.go (wk6 0 6 8 9 10 17 rfl ?_)))
 refine Tr.cn rfl ?_ ?_ <;> intro h2 q2
 exact absurd (if_pos (hc x (List.mem_of_getElem? hx_k))) q2
 refine Tr.skip (Fin.block (Fin.go (Tr.reg0 (cad rfl rfl rfl rfl (by omega) (cm rfl (Ch.nil (Fin.fam_same (k + 1) ⟨hk_k, by omega⟩ ⟨⟨_, rfl, int_succ k⟩, ke rfl, ke rfl, ke rfl, trivial⟩)))))))
 have he_k : k = (l).length := by have := ge_of_dec h1; omega
 subst he_k
 refine Tr.exit (Fin.then_exit (Fin.then_exit (Fin.block_here (Fin.go (Tr.seq (Tr.regT (tm rfl (TO.pad ?_))))))))
 refine TO.efs 0 rfl rfl (by decide) (ef_call rfl rfl (by decide) rfl (w_cloneG h0 (by omega)) ⟨ke rfl, trivial⟩) (fun v1 => ?_)
 refine TO.openM 0 rfl fun b2 cap2 sp2 hv2 hg2 hm2 hs2 => ?_
 subst hv2
 refine tm rfl (TO.nil (Fin.go (Tr.seq (Tr.regT (tm rfl ?_)))))
 refine TO.efc 0 rfl rfl (by decide) (ef_callc rfl rfl (by decide) rfl (w_sortG (l := l) (c := fun p => ordF p.1 p.2) (len := (l.map rowF).length) (sp := sp2) (List.length_map ..).symm ordF_cmp.swo (by rw [List.length_map]; exact hl)) ⟨⟨_, rfl, andIs_is _ _⟩, ⟨_, rfl, fn_le_clo e_FOrder (fun _ => w_FOrder)⟩, trivial⟩) ?_
 refine TO.openL 0 rfl fun t1 hp1 => ?_
 have hpl1 := hp1.len
 have hsp := sortL_spec ordF_cmp (by simpa using hp1)
 have hdn := dd_norm hsp.1 hsp.2
 refine TO.nil (Fin.go (Tr.seq (Tr.regT (tm rfl ?_))))
 refine TO.efc 0 rfl rfl (by decide) (ef_callc rfl rfl (by decide) rfl (w_compG (l := t1) (len := (l.map rowF).length) (sp := sp2) (hpl1.trans (List.length_map ..).symm) (by rw [List.length_map]; omega) hg2 hm2) ⟨⟨_, rfl, andIs_is _ _⟩, trivial⟩) ?_
 refine tm rfl (TO.nil (Fin.go (Tr.seq (Tr.seq (Tr.reg0 (cm rfl (co rfl (okb_len rfl Tryz.underlying31 (vl rfl)) (co rfl (ki rfl rfl rfl rfl) (Ch.nil (Fin.go (wk2 7 28 rfl ?_)))))))))))
 refine Tr.cn rfl ?_ ?_ <;> intro h3 q3
 exfalso; have := ddL_len t1; omega
 refine Tr.skip (Fin.go (Tr.seq (Tr.reg0 (cm rfl (cm rfl (cm rfl (Ch.nil (Fin.go (Tr.ret ?_)))))))))
 refine Fin.frzS (sz := 11) ((ddL t1).map rowF) 0 2 rfl rfl (Pr.le_of_eq (by rw [List.length_map])) (map_rows fun _ => rfl) (by have := ddL_len t1; simp only [List.length_map] at hg2 ⊢; omega) hm2 (by have hdl := ddL_len t1; rw [hpl1] at hdl; simp only [List.length_append, List.length_map, hs2, hpl1]; rw [flat_len (sz := 11) (fun r hr => by rw [List.eq_of_mem_replicate hr]; rfl), List.length_replicate]; simp only [List.length_map] at hg2 ⊢; omega) ?_
 refine Fin.ret2 rfl (OutW.bse _ _) rfl ?_ rfl ?_
 · exact Pr.le_trans (andIs_le _ _) (Pr.le_of_eq (by rw [hdn]))
 · exact Pr.le_refl _
set_option maxRecDepth 20000 in
theorem w_clone0G   : Fun Tryz.prog 80 [fnds []] (fnds []) := by
 refine Fun.of Tryz.func80 rfl rfl (by exact Nat.le_of_ble_eq_true rfl) fun M0 w0 => ?_
 refine Tr.seq (Tr.reg0 (cm rfl (Ch.nil (Fin.go (Tr.seq (Tr.seq (Tr.reg0 (cm rfl (co rfl (ok_eqnil rfl Tryz.underlying31 (vl rfl)) (Ch.nil (Fin.go (Tr.ex 4 rfl (fun z1 => Tr.fact 4 rfl fun hz1 => ?_)))))))))))))
 refine Tr.cn rfl ?_ ?_ <;> intro h1 q1
 refine Tr.seq (Tr.reg0 (cm rfl (Ch.nil (Fin.go (Tr.ret (Fin.then_ret (Fin.ret1 rfl (OutW.bse _ _) rfl ?_)))))))
 · exact nil_slice 11
 refine Tr.skip (Fin.go (Tr.seq (Tr.regT (tp rfl (ok_buildSlice (xs := []) (rows := []) rfl rfl Tryz.underlying31 sz26 z26 rfl (by decide) trivial (by decide)) (tm rfl (TO.pad ?_))))))
 refine TO.efs 0 rfl rfl (by decide) (ef_append rfl rfl (by decide) rfl Tryz.underlying31 sz26 by26 z26 rfl (by decide) ⟨_, rfl, full_le _ _⟩ (vl rfl) (by simp only [List.length_map, List.length_append, List.length_cons, List.length_nil]; unfold maxLen; omega) (by simp only [List.length_map, List.length_append, List.length_cons, List.length_nil]; omega) (appR_full (by exact List.Mem.head _) (vl rfl))) (fun v1 => ?_)
 refine tm rfl (TO.nil (Fin.go (Tr.ret (Fin.ret1 rfl (OutW.bse _ _) rfl ?_))))
 · exact andIs_le _ _
set_option maxRecDepth 20000 in
theorem w_comp0G   : Fun Tryz.prog 83 [fnds []] (fnds []) := by
 refine Fun.of Tryz.func83 rfl rfl (by exact Nat.le_of_ble_eq_true rfl) fun M0 w0 => ?_
 refine Tr.seq (Tr.reg0 (cm rfl (Ch.nil (Fin.go (Tr.seq (Tr.seq (Tr.reg0 (cm rfl (co rfl (ok_lenm rfl Tryz.underlying31 (vl rfl)) (co rfl (ki rfl rfl rfl rfl) (Ch.nil (Fin.go ?_))))))))))))
 refine Tr.cn rfl ?_ ?_ <;> intro h1 q1
 refine Tr.seq (Tr.reg0 (cm rfl (cm rfl (Ch.nil (Fin.go (Tr.ret (Fin.then_ret (Fin.ret1 rfl (OutW.bse _ _) rfl ?_))))))))
 · exact Pr.le_refl _
 exfalso; simp at h1
set_option maxRecDepth 20000 in
theorem w_FNorm0   : Fun Tryz.prog 29 [fnds []] (tup [fnds [], int 0]) := by
 refine Fun.of Tryz.func29 rfl rfl (by exact Nat.le_of_ble_eq_true rfl) fun M0 w0 => ?_
 refine Tr.seq (Tr.reg0 (cm rfl (cm rfl (Ch.nil (Fin.go (Tr.seq (Tr.seq (Tr.reg0 (cm rfl (co rfl (ok_lenm rfl Tryz.underlying31 (vl rfl)) (cm rfl (Ch.nil (Fin.go (Tr.block ?_))))))))))))))
 refine Tr.loopw [(0, _), (8, _), (9, _)] (kk3 rfl) (fun (u : Unit) => [(10, int 0)]) (fun (u : Unit) => True) (fun (u : Unit) => 0) () (trivial) ⟨ke rfl, trivial⟩ ?_
 rintro u _
 refine Tr.seq (Tr.reg0 (co rfl (ki rfl rfl rfl rfl) (Ch.nil (Fin.go (Tr.seq ?_)))))
 refine Tr.cn rfl ?_ ?_ <;> intro h1 q1
 exfalso; simp at h1
 have := h1
 refine Tr.exit (Fin.then_exit (Fin.then_exit (Fin.block_here (Fin.go (Tr.seq (Tr.reg0 (cm rfl (co rfl (ok_call rfl (w_clone0G) ⟨ke rfl, trivial⟩) (cm rfl (Ch.nil (Fin.go (Tr.seq (Tr.reg0 ?_)))))))))))))
 refine cm rfl (co rfl (ok_call rfl (w_SortNG (rows := []) (by decide)) ⟨ke rfl, ⟨_, rfl, le_any _⟩, trivial⟩) (Ch.nil (Fin.go (Tr.seq (Tr.reg0 (cm rfl (co rfl (ok_call rfl (w_comp0G) ⟨ke rfl, trivial⟩) (cm rfl (Ch.nil (Fin.go (Tr.seq (Tr.seq (Tr.reg0 ?_)))))))))))))
 refine cm rfl (co rfl (ok_lenm rfl Tryz.underlying31 (vl rfl)) (co rfl (ki rfl rfl rfl rfl) (Ch.nil (Fin.go (wk2 7 28 rfl ?_)))))
 refine Tr.cn rfl ?_ ?_ <;> intro h2 q2
 exfalso; simp at h2
 refine Tr.skip (Fin.go (Tr.seq (Tr.reg0 (cm rfl (cm rfl (cm rfl (Ch.nil (Fin.go (Tr.ret (Fin.ret2 rfl (OutW.bse _ _) rfl ?_ rfl ?_))))))))))
 · exact Pr.le_refl _
 · exact Pr.le_refl _
theorem w_FNorm {l : List Fnd} (hc : ∀ f ∈ l, checkF f = true) (hf : ∀ f ∈ l, f.fits) (hl : l.length < 50) : Fun Tryz.prog 29 [fnds l] (tup [fnds (normL l), int 0]) := by
  by_cases h : l = []
  · subst h; exact w_FNorm0
  · exact w_FNormN hc hf h hl
theorem flat_take {α : Type} {ss : List (List α)} {k : Nat} {x : List α} (h : ss[k]? = some x) : (ss.take (k + 1)).flatten = (ss.take k).flatten ++ x := by
  rw [List.take_add_one, h, List.flatten_append]; simp
theorem flat_take_le {α : Type} (ss : List (List α)) (k : Nat) : (ss.take k).flatten.length ≤ ss.flatten.length := by
  have h := congrArg (fun l : List (List α) => l.flatten.length) (List.take_append_drop k ss)
  simp only [List.flatten_append, List.length_append] at h; omega

set_option maxRecDepth 20000 in
theorem w_concatG {ss : List (List Fnd)} (h0 : 0 < ss.flatten.length) (hn : ss.flatten.length ≤ 100000) : Fun Tryz.prog 84 [slice 1 (ss.map fun a => [fnds a])] (fnds ss.flatten) := by
 refine Fun.of Tryz.func84 rfl rfl (by exact Nat.le_of_ble_eq_true rfl) fun M0 w0 => ?_
 refine Tr.lenm 0 rfl fun hlm_0 => (Tr.seq (Tr.reg0 (cm rfl (Ch.nil (Fin.go (Tr.seq (Tr.reg0 (cm rfl (Ch.nil (Fin.go (Tr.seq (Tr.seq (Tr.reg0 ?_)))))))))))))
 refine cm rfl (co rfl (ok_lenm rfl Tryz.underlying163 (vl rfl)) (cm rfl (Ch.nil (Fin.go (Tr.block (Tr.loopw [(0, _), (9, _), (10, _)] (kk3 rfl) (fun k : Nat => [(11, int ((k : Nat) : Int)), (3, int (((ss.take k).flatten.length : Nat) : Int))]) (fun k : Nat => k ≤ (ss).length) (fun k : Nat => (ss).length - k) 0 (Nat.zero_le _) ⟨ke rfl, ⟨_, rfl, int_eq (by simp)⟩, trivial⟩ ?_))))))
 rintro k hle_k
 refine Tr.seq (Tr.reg0 (co rfl (ki rfl rfl rfl rfl) (Ch.nil (Fin.go (Tr.seq ?_)))))
 refine Tr.cn rfl ?_ ?_ <;> intro h1 q1
 have hk_k : k < (ss).length := lt_of_dec h1
 obtain ⟨x, hx_k⟩ := at_ hk_k
 have hft := flat_take hx_k
 have hfl := flat_take_le ss (k + 1)
 rw [hft, List.length_append] at hfl
 refine Tr.skip (Fin.go (Tr.seq (Tr.block (Tr.seq (Tr.reg0 (co rfl (ok_indexAddr rfl Tryz.underlying163 sz31 (vl rfl) (vl rfl) (by omega) (by exact row_at (by assumption))) ?_))))))
 refine co rfl (kl1 rfl one31 rfl) (cm rfl (Ch.nil (Fin.go (Tr.seq (Tr.reg0 (cm rfl (cm rfl (co rfl (ok_lenm rfl Tryz.underlying31 (vl rfl)) (cad rfl rfl rfl rfl (by omega) (cm rfl (Ch.nil (Fin.go (wk5 0 3 9 10 11 rfl (Tr.seq ?_))))))))))))))
 refine Tr.reg0 (cm rfl (co rfl (ki rfl rfl rfl rfl) (Ch.nil (Fin.go ?_))))
 refine Tr.cn rfl ?_ ?_ <;> intro h2 q2
 exfalso; omega
 refine Tr.skip (Fin.block (Fin.go (Tr.reg0 (cad rfl rfl rfl rfl (by omega) (cm rfl (Ch.nil ?_))))))
 exact Fin.fam_same (k + 1) ⟨hk_k, by omega⟩ ⟨⟨_, rfl, int_succ k⟩, ⟨_, rfl, int_eq (by rw [hft, List.length_append]; omega)⟩, ke rfl, ke rfl, ke rfl, trivial⟩
 have he_k : k = (ss).length := by have := ge_of_dec h1; omega
 subst he_k
 rw [List.take_length]
 refine Tr.exit (Fin.then_exit (Fin.then_exit (Fin.block_here (Fin.go (Tr.seq (Tr.regT (tm rfl (TO.pad ?_))))))))
 refine TO.efs 0 rfl rfl (by decide) (ef_call rfl rfl (by decide) rfl (w_growG (n := ss.flatten.length) h0 hn) ⟨ke rfl, ke rfl, trivial⟩) (fun v1 => ?_)
 refine tm rfl (TO.nil (Fin.go (Tr.seq (Tr.seq (Tr.reg0 (cm rfl (co rfl (ok_lenm rfl Tryz.underlying163 (vl rfl)) (cm rfl (Ch.nil (Fin.go (Tr.block (Tr.loopV1 [(25, _), (26, _)] ⟨ke rfl, ke rfl, trivial⟩ (fun m v => [(27, int ((m : Nat) : Int)), (6, andIs v (fnds ((ss.take m).flatten)))]) (fun m v => Hp M0 w0 noS ([appRes 26 11 v])) (fun m : Nat => m ≤ (ss).length) (fun m : Nat => (ss).length - m) 0 v1 (Nat.zero_le _) ⟨ke rfl, ⟨_, rfl, own_le (by simp)⟩, trivial⟩ (fun _ _ h => h) ?_))))))))))))
 rintro m v hle_m
 refine Tr.seq (Tr.reg0 (co rfl (ki rfl rfl rfl rfl) (Ch.nil (Fin.go (Tr.seq ?_)))))
 refine Tr.cn rfl ?_ ?_ <;> intro h3 q3
 have hk_m : m < (ss).length := lt_of_dec h3
 obtain ⟨x, hx_m⟩ := at_ hk_m
 have hft := flat_take hx_m
 have hfl := flat_take_le ss (m + 1)
 rw [hft, List.length_append] at hfl
 refine Tr.skip (Fin.go (Tr.seq (Tr.block (Tr.seq (Tr.reg0 (co rfl (ok_indexAddr rfl Tryz.underlying163 sz31 (vl rfl) (vl rfl) (by omega) (by exact row_at (by assumption))) ?_))))))
 refine co rfl (kl1 rfl one31 rfl) (cm rfl (Ch.nil (Fin.go (Tr.regT (tm rfl (tm rfl ?_))))))
 refine TO.efs 0 rfl rfl (by decide) (ef_append rfl rfl (by decide) rfl Tryz.underlying31 sz26 by26 z26 rfl (by decide) ⟨_, rfl, andIs_le _ _⟩ (vl rfl) (by simp only [List.length_map, List.length_append, List.length_cons, List.length_nil]; unfold maxLen; omega) (by simp only [List.length_map, List.length_append, List.length_cons, List.length_nil]; omega) (appR_is (by exact List.Mem.head _) ⟨_, rfl, andIs_is _ _⟩)) (fun v2 => ?_)
 refine tm rfl (TO.nil (Fin.block (Fin.go (Tr.reg0 (cad rfl rfl rfl rfl (by omega) (cm rfl (Ch.nil (Fin.famV1 (m + 1) v2 (⟨hk_m, by omega⟩) ⟨⟨_, rfl, int_succ m⟩, ⟨_, rfl, own_le (by rw [hft, List.map_append])⟩, ke rfl, ke rfl, trivial⟩ (fun _ _ h => h)))))))))
 have he_m : m = (ss).length := by have := ge_of_dec h3; omega
 subst he_m
 rw [List.take_length]
 refine Tr.exit (Fin.then_exit (Fin.then_exit (Fin.block_here (Fin.go (Tr.seq (Tr.reg0 (cm rfl (cm rfl (Ch.nil (Fin.go (Tr.ret (Fin.ret1 rfl (OutW.bse _ _) rfl ?_))))))))))))
 · exact andIs_le _ _
set_option maxRecDepth 20000 in
theorem w_FMerge {a b : List Fnd} (hc : ∀ f ∈ a ++ b, checkF f = true) (hf : ∀ f ∈ a ++ b, f.fits) (hb : b ≠ []) (hl : (a ++ b).length < 50) : Fun Tryz.prog 30 [fnds a, fnds b] (tup [fnds (normL (a ++ b)), int 0]) := by
 refine Fun.of Tryz.func30 rfl rfl (by exact Nat.le_of_ble_eq_true rfl) fun M0 w0 => ?_
 have hbl : 0 < b.length := List.length_pos_iff.2 hb
 have hab : [a, b].flatten = a ++ b := by simp
 have hll : (a ++ b).length = a.length + b.length := List.length_append ..
 refine Tr.seq (Tr.reg0 (cm rfl (cm rfl (Ch.nil (Fin.go (Tr.seq (Tr.reg0 (cm rfl (cm rfl (co rfl (ok_buildSlice (xs := [.tmp 6, .tmp 7]) (rows := [[_], [_]]) rfl rfl Tryz.underlying163 sz31 z31 rfl (by decide) ⟨⟨(by exact rfl), (VL.le (vl rfl) (one_cellsP _))⟩, ⟨⟨(by exact rfl), (VL.le (vl rfl) (one_cellsP _))⟩, trivial⟩⟩ (by decide)) ?_))))))))))
 refine co rfl (ok_call rfl (w_concatG (ss := [a, b]) (by rw [hab]; omega) (by rw [hab]; omega)) ⟨⟨_, rfl, full_le _ _⟩, trivial⟩) ?_
 refine co rfl (ok_call rfl (w_FNorm (l := [a, b].flatten) (by rw [hab]; exact hc) (by rw [hab]; exact hf) (by rw [hab]; omega)) ⟨ke rfl, trivial⟩) ?_
 refine co rfl (ok_extract rfl (vl rfl) rfl) (co rfl (ok_extract rfl (vl rfl) rfl) (cm rfl (cm rfl (Ch.nil (Fin.go (Tr.ret (Fin.ret2 rfl (OutW.bse _ _) rfl ?_ rfl ?_)))))))
 · exact Pr.le_of_eq (by rw [hab])
 · exact Pr.le_refl _
end Go.Proofs.YtgdlhajfajddiaaGreat
namespace Go.Proofs.YtgdlhajfajddiaaGreat
open Go Go.RowKit Cp

theorem norm_len (l : List Fnd) : (normL l).length ≤ l.length := by have := fold_len l []; simpa using this
theorem norm_okP {l : List Fnd} (hc : ∀ g ∈ l, checkF g = true) (hl : l.length < 50) : NormP (normL l) := norm_ok hc (by omega)

end Go.Proofs.YtgdlhajfajddiaaGreat
namespace Go.Proofs.YtgdlhajfajddiaaGreat
open Go Go.RowKit Cp

def dist (f g : Fnd) : Int := max (f.day - g.day) (g.day - f.day)
def closer (f g b : Fnd) : Bool := decide (orL [cmpI (dist f g) (dist f b), cmpI g.day b.day, cmpI g.machine b.machine] < 0)
def skipN (f g : Fnd) (gap : Int) : Bool := decide (g.machine = 0 ∨ ¬ g.host = f.host ∨ gap < dist f g)
/-- The nearest with a machine, among the first k; -1 without one. -/
def nearK (l : List Fnd) (f : Fnd) (gap : Int) : Nat → Int
  | 0 => -1
  | k + 1 => match l[k]? with
    | none => nearK l f gap k
    | some g => if skipN f g gap then nearK l f gap k else if nearK l f gap k < 0 then (k : Nat) else match l[(nearK l f gap k).toNat]? with
      | none => (k : Nat)
      | some b => if closer f g b then (k : Nat) else nearK l f gap k
abbrev near (l : List Fnd) (f : Fnd) (gap : Int) : Int := nearK l f gap l.length
theorem nearK_skip {l : List Fnd} {f g : Fnd} {gap : Int} {k : Nat} (hg : l[k]? = some g) (h : skipN f g gap = true) : nearK l f gap (k + 1) = nearK l f gap k := by
  show (match l[k]? with | none => _ | some g => _) = _
  rw [hg]; exact if_pos h
theorem nearK_first {l : List Fnd} {f g : Fnd} {gap : Int} {k : Nat} (hg : l[k]? = some g) (h : skipN f g gap = false) (h0 : nearK l f gap k < 0) : nearK l f gap (k + 1) = (k : Nat) := by
  show (match l[k]? with | none => _ | some g => _) = _
  rw [hg]; show (if skipN f g gap = true then _ else _) = _
  rw [if_neg (by simp [h]), if_pos h0]
theorem nearK_two {l : List Fnd} {f g b : Fnd} {gap : Int} {k : Nat} (hg : l[k]? = some g) (h : skipN f g gap = false) (h0 : ¬ nearK l f gap k < 0) (hb : l[(nearK l f gap k).toNat]? = some b) : nearK l f gap (k + 1) = if closer f g b then ((k : Nat) : Int) else nearK l f gap k := by
  show (match l[k]? with | none => _ | some g => _) = _
  rw [hg]; show (if skipN f g gap = true then _ else _) = _
  rw [if_neg (by simp [h]), if_neg h0, hb]
theorem nearK_in (l : List Fnd) (f : Fnd) (gap : Int) : ∀ k, nearK l f gap k = -1 ∨ (0 ≤ nearK l f gap k ∧ (nearK l f gap k).toNat < k ∧ ∃ g, l[(nearK l f gap k).toNat]? = some g ∧ skipN f g gap = false)
  | 0 => .inl rfl
  | k + 1 => by
    have ih := nearK_in l f gap k
    cases hg : l[k]? with
    | none =>
      have e : nearK l f gap (k + 1) = nearK l f gap k := by show (match l[k]? with | none => _ | some g => _) = _; rw [hg]
      rw [e]
      rcases ih with ih | ⟨h1, h2, h3⟩
      · exact .inl ih
      · exact .inr ⟨h1, by omega, h3⟩
    | some g =>
      have hk : ∀ e : nearK l f gap (k + 1) = (k : Nat), skipN f g gap = false → (nearK l f gap (k + 1) = -1 ∨ (0 ≤ nearK l f gap (k + 1) ∧ (nearK l f gap (k + 1)).toNat < k + 1 ∧ ∃ g, l[(nearK l f gap (k + 1)).toNat]? = some g ∧ skipN f g gap = false)) := by
        intro e hs
        rw [e]
        exact .inr ⟨by omega, by simp, g, by rw [Int.toNat_natCast]; exact hg, hs⟩
      have hold : nearK l f gap (k + 1) = nearK l f gap k → (nearK l f gap (k + 1) = -1 ∨ (0 ≤ nearK l f gap (k + 1) ∧ (nearK l f gap (k + 1)).toNat < k + 1 ∧ ∃ g, l[(nearK l f gap (k + 1)).toNat]? = some g ∧ skipN f g gap = false)) := by
        intro e
        rw [e]
        rcases ih with ih | ⟨h1, h2, h3⟩
        · exact .inl ih
        · exact .inr ⟨h1, by omega, h3⟩
      cases hs : skipN f g gap with
      | true => exact hold (nearK_skip hg hs)
      | false =>
        rcases ih with h1 | ⟨h1, h2, b, hb, h3⟩
        · exact hk (nearK_first hg hs (by omega)) hs
        · have e := nearK_two hg hs (by omega) hb
          cases hc : closer f g b with
          | true => rw [hc] at e; exact hk e hs
          | false => rw [hc] at e; exact hold e
/-- The machine that a finding is of, or whose it was made. -/
def mOf (l : List Fnd) (gap : Int) (i : Nat) : Int := match l[i]? with
  | none => 0
  | some f => if f.machine = 0 then (match l[(near l f gap).toNat]? with | some g => if near l f gap < 0 then 0 else g.machine | none => 0) else f.machine
theorem mOf_own {l : List Fnd} {gap : Int} {i : Nat} {f : Fnd} (hf : l[i]? = some f) (h : ¬ f.machine = 0) : mOf l gap i = f.machine := by
  unfold mOf; rw [hf]; exact if_neg h
theorem mOf_near {l : List Fnd} {gap : Int} {i : Nat} {f g : Fnd} (hf : l[i]? = some f) (h : f.machine = 0) (hn : 0 ≤ near l f gap) (hg : l[(near l f gap).toNat]? = some g) : mOf l gap i = g.machine := by
  unfold mOf; rw [hf]; show (if _ then _ else _) = _
  rw [if_pos h, hg]; exact if_neg (by omega)
theorem mOf_loose {l : List Fnd} {gap : Int} {i : Nat} {f : Fnd} (hf : l[i]? = some f) (h : f.machine = 0) (hn : near l f gap < 0) : mOf l gap i = 0 := by
  unfold mOf; rw [hf]; show (if _ then _ else _) = _
  rw [if_pos h]; split
  · rw [if_pos hn]
  · rfl
theorem near_get {l : List Fnd} {f : Fnd} {gap : Int} (hn : 0 ≤ near l f gap) : (near l f gap).toNat < l.length ∧ ∃ g, l[(near l f gap).toNat]? = some g ∧ ¬ g.machine = 0 ∧ g.host = f.host ∧ dist f g ≤ gap := by
  rcases nearK_in l f gap l.length with h | ⟨h1, h2, g, hg, h3⟩
  · have h : near l f gap = -1 := h
    omega
  · refine ⟨h2, g, hg, ?_⟩
    unfold skipN at h3
    rw [decide_eq_false_iff_not] at h3
    refine ⟨fun e => h3 (.inl e), Classical.byContradiction fun e => h3 (.inr (.inl e)), ?_⟩
    rcases Int.lt_or_le gap (dist f g) with h | h
    · exact absurd (.inr (.inr h)) h3
    · exact h
/-- Of a machine: itself, or the one that it is near to. -/
theorem mOf_src {l : List Fnd} {gap : Int} {i : Nat} {f : Fnd} (hf : l[i]? = some f) (h : ¬ mOf l gap i = 0) : (¬ f.machine = 0 ∧ mOf l gap i = f.machine) ∨ (f.machine = 0 ∧ 0 ≤ near l f gap ∧ ∃ g, l[(near l f gap).toNat]? = some g ∧ g.machine = mOf l gap i ∧ ¬ g.machine = 0) := by
  by_cases hm : f.machine = 0
  · right
    rcases Int.lt_or_le (near l f gap) 0 with hn | hn
    · exact absurd (mOf_loose hf hm hn) h
    · obtain ⟨h1, g, hg, h2, _⟩ := near_get hn
      exact ⟨hm, hn, g, hg, (mOf_near hf hm hn hg).symm, h2⟩
  · exact .inl ⟨hm, mOf_own hf hm⟩
theorem loose_of {l : List Fnd} {gap : Int} {i : Nat} {f : Fnd} (hf : l[i]? = some f) (h : mOf l gap i = 0) : f.machine = 0 ∧ near l f gap < 0 := by
  by_cases hm : f.machine = 0
  · refine ⟨hm, ?_⟩
    rcases Int.lt_or_le (near l f gap) 0 with hn | hn
    · exact hn
    · obtain ⟨h1, g, hg, h2, _⟩ := near_get hn
      rw [mOf_near hf hm hn hg] at h; exact absurd h h2
  · rw [mOf_own hf hm] at h; exact absurd h hm
/-- The last one without any machine, among the first k. -/
def prevK (l : List Fnd) (gap : Int) : Nat → Int
  | 0 => -1
  | k + 1 => if mOf l gap k = 0 then (k : Nat) else prevK l gap k
theorem prevK_in (l : List Fnd) (gap : Int) : ∀ k, prevK l gap k = -1 ∨ (0 ≤ prevK l gap k ∧ (prevK l gap k).toNat < k ∧ mOf l gap (prevK l gap k).toNat = 0)
  | 0 => .inl rfl
  | k + 1 => by
    unfold prevK
    split
    · rename_i h; exact .inr ⟨by omega, by simp, by simpa using h⟩
    · rcases prevK_in l gap k with h | ⟨h1, h2, h3⟩
      · exact .inl h
      · exact .inr ⟨h1, by omega, h3⟩
theorem prevK_max {l : List Fnd} {gap : Int} : ∀ k j, j < k → mOf l gap j = 0 → (j : Int) ≤ prevK l gap k
  | 0, _, h, _ => absurd h (Nat.not_lt_zero _)
  | k + 1, j, h, hj => by
    unfold prevK
    split
    · omega
    · rename_i hk
      have : j < k := by
        rcases Nat.lt_or_eq_of_le (Nat.le_of_lt_succ h) with h1 | h1
        · exact h1
        · rw [h1] at hj; exact absurd hj hk
      exact prevK_max k j this hj
abbrev nextTo (l : List Fnd) (gap : Int) (p i : Nat) : Bool := match l[p]?, l[i]? with
  | some g, some f => decide (g.host = f.host ∧ dist f g ≤ gap)
  | _, _ => false
/-- The least finding of the same entity. -/
def rootS (l : List Fnd) (gap : Int) (i : Nat) : Nat :=
  if mOf l gap i = 0 then (if _h : 0 ≤ prevK l gap i ∧ (prevK l gap i).toNat < i ∧ nextTo l gap (prevK l gap i).toNat i = true then rootS l gap (prevK l gap i).toNat else i)
  else ((List.range i).find? fun k => decide (mOf l gap k = mOf l gap i)).getD i
termination_by i
decreasing_by omega
theorem rootS_loose {l : List Fnd} {gap : Int} {i : Nat} (h : mOf l gap i = 0) (hp : 0 ≤ prevK l gap i) (hn : nextTo l gap (prevK l gap i).toNat i = true) : rootS l gap i = rootS l gap (prevK l gap i).toNat := by
  have h2 : (prevK l gap i).toNat < i := by rcases prevK_in l gap i with h1 | ⟨_, h1, _⟩ <;> omega
  rw [rootS, if_pos h, dif_pos ⟨hp, h2, hn⟩]
theorem rootS_alone {l : List Fnd} {gap : Int} {i : Nat} (h : mOf l gap i = 0) (hn : ¬ (0 ≤ prevK l gap i ∧ nextTo l gap (prevK l gap i).toNat i = true)) : rootS l gap i = i := by
  rw [rootS, if_pos h, dif_neg (fun hh => hn ⟨hh.1, hh.2.2⟩)]
theorem rootS_le (l : List Fnd) (gap : Int) : ∀ i, rootS l gap i ≤ i := by
  intro i
  induction i using Nat.strongRecOn with
  | _ i ih =>
    rw [rootS]
    split
    · split
      · rename_i h; have := ih _ h.2.1; omega
      · exact Nat.le_refl _
    · cases hf : (List.range i).find? fun k => decide (mOf l gap k = mOf l gap i) with
      | none => exact Nat.le_refl _
      | some k => have := List.mem_range.1 (List.mem_of_find?_eq_some hf); simp; omega
theorem rootS_m {l : List Fnd} {gap : Int} {i : Nat} (h : ¬ mOf l gap i = 0) : mOf l gap (rootS l gap i) = mOf l gap i ∧ ∀ j, j < rootS l gap i → ¬ mOf l gap j = mOf l gap i := by
  rw [rootS, if_neg h]
  cases hf : (List.range i).find? fun k => decide (mOf l gap k = mOf l gap i) with
  | none =>
    rw [List.find?_eq_none] at hf
    exact ⟨rfl, fun j hj e => hf j (List.mem_range.2 hj) (by simpa using e)⟩
  | some k =>
    rw [List.find?_range_eq_some] at hf
    obtain ⟨h1, h2, h3⟩ := hf
    exact ⟨by simpa using h1, fun j hj => by simpa using h3 j hj⟩
theorem rootS_meq {l : List Fnd} {gap : Int} {i j : Nat} (h : ¬ mOf l gap i = 0) (e : mOf l gap j = mOf l gap i) : rootS l gap j = rootS l gap i := by
  obtain ⟨h1, h2⟩ := rootS_m h
  obtain ⟨h3, h4⟩ := rootS_m (i := j) (by rw [e]; exact h)
  rw [e] at h3 h4
  rcases Nat.lt_trichotomy (rootS l gap j) (rootS l gap i) with h5 | h5 | h5
  · exact absurd h3 (h2 _ h5)
  · exact h5
  · exact absurd h1 (h4 _ h5)
/-- The last one of a machine, among the first k. -/
def lastM (l : List Fnd) (m : Int) : Nat → Int
  | 0 => -1
  | k + 1 => if (l[k]?).map (·.machine) = some m then (k : Nat) else lastM l m k
theorem lastM_in (l : List Fnd) (m : Int) : ∀ k, lastM l m k = -1 ∨ (0 ≤ lastM l m k ∧ (lastM l m k).toNat < k ∧ ∃ g, l[(lastM l m k).toNat]? = some g ∧ g.machine = m)
  | 0 => .inl rfl
  | k + 1 => by
    unfold lastM
    split
    · rename_i h
      rw [Option.map_eq_some_iff] at h
      obtain ⟨g, h1, h2⟩ := h
      exact .inr ⟨by omega, by simp, g, by rw [Int.toNat_natCast]; exact h1, h2⟩
    · rcases lastM_in l m k with h | ⟨h1, h2, h3⟩
      · exact .inl h
      · exact .inr ⟨h1, by omega, h3⟩
theorem lastM_max {l : List Fnd} {m : Int} : ∀ (k j : Nat) (g : Fnd), j < k → l[j]? = some g → g.machine = m → (j : Int) ≤ lastM l m k
  | 0, _, _, h, _, _ => absurd h (Nat.not_lt_zero _)
  | k + 1, j, g, h, hg, hm => by
    unfold lastM
    split
    · omega
    · rename_i hk
      have : j < k := by
        rcases Nat.lt_or_eq_of_le (Nat.le_of_lt_succ h) with h1 | h1
        · exact h1
        · rw [h1] at hg; exact absurd (by rw [hg]; simp [hm]) hk
      exact lastM_max k j g this hg hm
/-- With which one a finding is joined. -/
def edgeOf (l : List Fnd) (gap : Int) (i : Nat) : Int := match l[i]? with
  | none => -1
  | some f => if f.machine = 0 then (if near l f gap < 0 then (if 0 ≤ prevK l gap i ∧ nextTo l gap (prevK l gap i).toNat i = true then prevK l gap i else -1) else near l f gap) else lastM l f.machine i
def joinR (R : Nat → Nat) (i k : Nat) : Nat → Nat := fun x => if R x = max (R i) (R k) then min (R i) (R k) else R x
structure RepR (R : Nat → Nat) : Prop where
  le : ∀ x, R x ≤ x
  idem : ∀ x, R (R x) = R x
theorem joinR_rep {R : Nat → Nat} (h : RepR R) (i k : Nat) : RepR (joinR R i k) := by
  refine ⟨fun x => ?_, fun x => ?_⟩
  · unfold joinR; have := h.le x; split <;> omega
  · have hi := h.idem i
    have hk := h.idem k
    have hx := h.idem x
    have hmin : R (min (R i) (R k)) = min (R i) (R k) := by rcases Nat.le_total (R i) (R k) with h1 | h1; rw [Nat.min_eq_left h1]; exact hi; rw [Nat.min_eq_right h1]; exact hk
    unfold joinR
    by_cases e : R x = max (R i) (R k)
    · rw [if_pos e, hmin]; split <;> rfl
    · rw [if_neg e, hx, if_neg e]
theorem joinR_both (R : Nat → Nat) (i k : Nat) : joinR R i k i = joinR R i k k := by
  unfold joinR
  rcases Nat.lt_trichotomy (R i) (R k) with h | h | h
  · rw [if_neg (by omega), if_pos (by omega)]; omega
  · rw [if_pos (by omega), if_pos (by omega)]
  · rw [if_pos (by omega), if_neg (by omega)]; omega
theorem joinR_mono {R : Nat → Nat} {x y : Nat} (h : R x = R y) (i k : Nat) : joinR R i k x = joinR R i k y := by unfold joinR; rw [h]
theorem joinR_sound {R key : Nat → Nat} (h : ∀ x y, R x = R y → key x = key y) {i k : Nat} (e : key i = key k) : ∀ x y, joinR R i k x = joinR R i k y → key x = key y := by
  have hm : ∀ x, (R x = R i ∨ R x = R k) → key x = key i := by
    rintro x (h1 | h1)
    · exact h _ _ h1
    · rw [e]; exact h _ _ h1
  intro x y hxy
  unfold joinR at hxy
  have h1 : max (R i) (R k) = R i ∨ max (R i) (R k) = R k := by omega
  have h2 : min (R i) (R k) = R i ∨ min (R i) (R k) = R k := by omega
  by_cases ex : R x = max (R i) (R k) <;> by_cases ey : R y = max (R i) (R k)
  · rw [hm x (by omega), hm y (by omega)]
  · rw [if_pos ex, if_neg ey] at hxy; rw [hm x (by omega), hm y (by omega)]
  · rw [if_neg ex, if_pos ey] at hxy; rw [hm x (by omega), hm y (by omega)]
  · rw [if_neg ex, if_neg ey] at hxy; exact h _ _ hxy
/-- What the joins of the first n make. -/
def RR (l : List Fnd) (gap : Int) : Nat → Nat → Nat
  | 0 => fun x => x
  | n + 1 => if edgeOf l gap n < 0 then RR l gap n else joinR (RR l gap n) n (edgeOf l gap n).toNat
theorem RR_rep (l : List Fnd) (gap : Int) : ∀ n, RepR (RR l gap n)
  | 0 => ⟨fun _ => Nat.le_refl _, fun _ => rfl⟩
  | n + 1 => by unfold RR; split; exact RR_rep l gap n; exact joinR_rep (RR_rep l gap n) _ _
theorem RR_mono {l : List Fnd} {gap : Int} {x y n : Nat} (h : RR l gap n x = RR l gap n y) : ∀ m, n ≤ m → RR l gap m x = RR l gap m y := by
  intro m hm
  induction m with
  | zero => have : n = 0 := by omega
            rw [this] at h; exact h
  | succ m ih =>
    rcases Nat.lt_or_eq_of_le hm with h1 | h1
    · unfold RR; split
      · exact ih (by omega)
      · exact joinR_mono (ih (by omega)) _ _
    · rw [← h1]; exact h
theorem RR_edge {l : List Fnd} {gap : Int} {i n : Nat} (hi : i < n) (he : 0 ≤ edgeOf l gap i) : RR l gap n i = RR l gap n (edgeOf l gap i).toNat := by
  refine RR_mono (n := i + 1) ?_ n hi
  show (if _ then _ else _ : Nat → Nat) i = (if _ then _ else _ : Nat → Nat) _
  rw [if_neg (by omega)]; exact joinR_both _ _ _
theorem edge_sound {l : List Fnd} {gap : Int} {i : Nat} (he : 0 ≤ edgeOf l gap i) : rootS l gap i = rootS l gap (edgeOf l gap i).toNat := by
  unfold edgeOf at he ⊢
  cases hf : l[i]? with
  | none => rw [hf] at he; exact absurd (show (0 : Int) ≤ -1 from he) (by decide)
  | some f =>
    rw [hf] at he
    simp only [] at he ⊢
    by_cases hm : f.machine = 0
    · rw [if_pos hm] at he ⊢
      by_cases hn : near l f gap < 0
      · rw [if_pos hn] at he ⊢
        by_cases hp : 0 ≤ prevK l gap i ∧ nextTo l gap (prevK l gap i).toNat i = true
        · rw [if_pos hp]; exact rootS_loose (mOf_loose hf hm hn) hp.1 hp.2
        · rw [if_neg hp] at he; omega
      · rw [if_neg hn]
        obtain ⟨h1, g, hg, h2, _⟩ := near_get (l := l) (f := f) (gap := gap) (by omega)
        have e1 := mOf_near hf hm (by omega) hg
        have e2 := mOf_own (gap := gap) hg h2
        exact rootS_meq (by rw [e2]; exact h2) (by rw [e1, e2])
    · rw [if_neg hm] at he ⊢
      rcases lastM_in l f.machine i with h | ⟨h1, h2, g, hg, h3⟩
      · omega
      · have e1 := mOf_own (gap := gap) hf hm
        have e2 := mOf_own (gap := gap) hg (by rw [h3]; exact hm)
        exact rootS_meq (by rw [e2, h3]; exact hm) (by rw [e1, e2, h3])
theorem RR_sound (l : List Fnd) (gap : Int) : ∀ n x y, RR l gap n x = RR l gap n y → rootS l gap x = rootS l gap y
  | 0, _, _, h => by have h : _ = _ := h; exact congrArg _ h
  | n + 1, x, y, h => by
    unfold RR at h
    split at h
    · exact RR_sound l gap n x y h
    · exact joinR_sound (RR_sound l gap n) (edge_sound (by omega)) x y h
theorem edge_own {l : List Fnd} {gap : Int} {i : Nat} {f : Fnd} (hf : l[i]? = some f) (h : ¬ f.machine = 0) : edgeOf l gap i = lastM l f.machine i := by unfold edgeOf; rw [hf]; exact if_neg h
theorem edge_near {l : List Fnd} {gap : Int} {i : Nat} {f : Fnd} (hf : l[i]? = some f) (h : f.machine = 0) (hn : ¬ near l f gap < 0) : edgeOf l gap i = near l f gap := by unfold edgeOf; rw [hf]; show (if _ then _ else _) = _; rw [if_pos h, if_neg hn]
theorem edge_loose {l : List Fnd} {gap : Int} {i : Nat} {f : Fnd} (hf : l[i]? = some f) (h : f.machine = 0) (hn : near l f gap < 0) : edgeOf l gap i = if 0 ≤ prevK l gap i ∧ nextTo l gap (prevK l gap i).toNat i = true then prevK l gap i else -1 := by unfold edgeOf; rw [hf]; show (if _ then _ else _) = _; rw [if_pos h, if_pos hn]
/-- All of a machine are joined. -/
theorem RR_machine {l : List Fnd} {gap : Int} {m : Int} (hm : ¬ m = 0) : ∀ j i f g, i < j → l[i]? = some f → l[j]? = some g → f.machine = m → g.machine = m → RR l gap l.length i = RR l gap l.length j := by
  intro j
  induction j using Nat.strongRecOn with
  | _ j ih =>
    intro i f g hij hf hg hfm hgm
    have hjl := (show j < l.length by rcases Nat.lt_or_ge j l.length with h | h; exact h; rw [List.getElem?_eq_none h] at hg; cases hg)
    have he := edge_own (gap := gap) hg (by rw [hgm]; exact hm)
    have hmax := lastM_max j i f hij hf (by rw [hfm, ← hgm])
    rcases lastM_in l g.machine j with h | ⟨h1, h2, u, hu, h3⟩
    · omega
    · have hj := RR_edge (n := l.length) hjl (by rw [he]; exact h1)
      rw [he] at hj
      rcases Nat.lt_or_eq_of_le (show i ≤ (lastM l g.machine j).toNat by omega) with h4 | h4
      · rw [hj]; exact ih _ h2 i f u h4 hf hu hfm (by rw [h3, hgm])
      · rw [hj, h4]
theorem RR_machine' {l : List Fnd} {gap : Int} {m : Int} (hm : ¬ m = 0) {i j : Nat} {f g : Fnd} (hf : l[i]? = some f) (hg : l[j]? = some g) (hfm : f.machine = m) (hgm : g.machine = m) : RR l gap l.length i = RR l gap l.length j := by
  rcases Nat.lt_trichotomy i j with h | h | h
  · exact RR_machine hm j i f g h hf hg hfm hgm
  · rw [h]
  · exact (RR_machine hm i j g f h hg hf hgm hfm).symm
theorem RR_actual {l : List Fnd} {gap : Int} {i : Nat} (hi : i < l.length) (h : ¬ mOf l gap i = 0) : ∃ j g, l[j]? = some g ∧ g.machine = mOf l gap i ∧ RR l gap l.length i = RR l gap l.length j := by
  obtain ⟨f, hf⟩ := at_ hi
  rcases mOf_src hf h with ⟨h1, h2⟩ | ⟨h1, h2, g, hg, h3, h4⟩
  · exact ⟨i, f, hf, h2.symm, rfl⟩
  · have he := edge_near (gap := gap) hf h1 (by omega)
    have := RR_edge (n := l.length) hi (by rw [he]; exact h2)
    rw [he] at this
    exact ⟨_, g, hg, h3, this⟩
theorem RR_root {l : List Fnd} {gap : Int} : ∀ i, i < l.length → RR l gap l.length i = RR l gap l.length (rootS l gap i) := by
  intro i
  induction i using Nat.strongRecOn with
  | _ i ih =>
    intro hi
    obtain ⟨f, hf⟩ := at_ hi
    by_cases h : mOf l gap i = 0
    · obtain ⟨h1, h2⟩ := loose_of hf h
      by_cases hp : 0 ≤ prevK l gap i ∧ nextTo l gap (prevK l gap i).toNat i = true
      · have he := edge_loose hf h1 h2
        rw [if_pos hp] at he
        have h3 := RR_edge (n := l.length) hi (by rw [he]; exact hp.1)
        rw [he] at h3
        have h4 : (prevK l gap i).toNat < i := by rcases prevK_in l gap i with h5 | ⟨_, h5, _⟩ <;> omega
        rw [h3, rootS_loose h hp.1 hp.2]
        exact ih _ h4 (by omega)
      · rw [rootS_alone h hp]
    · obtain ⟨h1, _⟩ := rootS_m h
      have hr := rootS_le l gap i
      obtain ⟨j, g, hg, h2, h3⟩ := RR_actual hi h
      obtain ⟨j', g', hg', h4, h5⟩ := RR_actual (l := l) (gap := gap) (i := rootS l gap i) (by omega) (by rw [h1]; exact h)
      rw [h3, h5]
      exact RR_machine' h hg hg' h2 (by rw [h4, h1])
theorem RR_eq {l : List Fnd} {gap : Int} {i : Nat} (hi : i < l.length) : RR l gap l.length i = rootS l gap i := by
  have hr := RR_rep l gap l.length
  have h1 := RR_root (gap := gap) i hi
  have h2 := hr.le (rootS l gap i)
  have h3 := RR_sound l gap l.length _ _ (hr.idem i)
  have h4 := rootS_le l gap (RR l gap l.length i)
  omega
theorem rootS_idem {l : List Fnd} {gap : Int} {i : Nat} (hi : i < l.length) : rootS l gap (rootS l gap i) = rootS l gap i := by
  have hr := RR_rep l gap l.length
  have h1 := rootS_le l gap i
  rw [← RR_eq (l := l) (gap := gap) (i := rootS l gap i) (by omega), ← RR_root i hi, RR_eq hi]

end Go.Proofs.YtgdlhajfajddiaaGreat
namespace Go.Proofs.YtgdlhajfajddiaaGreat
open Go Go.RowKit Cp

/-- An entity. -/
structure Ent where
  num : Int
  hosts : List (List UInt8)
  machines : List Int
  fnds : List Int
deriving DecidableEq
section
variable {α : Type}
/-- Into an ascending list, once. -/
def insC (c : α → α → Int) (l : List α) (x : α) : List α := match l with
  | [] => [x]
  | y :: r => if c y x < 0 then y :: insC c r x else if c y x = 0 then y :: r else x :: y :: r
theorem insC_mem {c : α → α → Int} (he : ∀ x y, c x y = 0 → x = y) {x z : α} : ∀ {l : List α}, z ∈ insC c l x ↔ z ∈ l ∨ z = x
  | [] => by simp [insC]
  | y :: r => by
    unfold insC
    split
    · rw [List.mem_cons, insC_mem he, List.mem_cons, or_assoc]
    · split
      · rename_i h
        constructor
        · exact .inl
        · rintro (h1 | rfl)
          · exact h1
          · rw [← he _ _ h]; exact List.mem_cons_self ..
      · rw [List.mem_cons]
        constructor
        · rintro (h | h)
          · exact .inr h
          · exact .inl h
        · rintro (h | h)
          · exact .inr h
          · exact .inl h
theorem insC_strict {c : α → α → Int} (hc : Cmp c) (he : ∀ x y, c x y = 0 → x = y) {x : α} : ∀ {l : List α}, l.Pairwise (fun a b => c a b < 0) → (insC c l x).Pairwise (fun a b => c a b < 0)
  | [], _ => by unfold insC; simp
  | y :: r, h => by
    obtain ⟨h1, h2⟩ := List.pairwise_cons.1 h
    unfold insC
    split
    · rename_i hlt
      refine List.pairwise_cons.2 ⟨fun z hz => ?_, insC_strict hc he h2⟩
      rcases (insC_mem he).1 hz with hz | rfl
      · exact h1 z hz
      · exact hlt
    · split
      · exact h
      · rename_i hn h0
        have hs := hc.swap y x
        have hxy : c x y < 0 := by omega
        refine List.pairwise_cons.2 ⟨fun z hz => ?_, h⟩
        rcases List.mem_cons.1 hz with rfl | hz
        · exact hxy
        · exact hc.tr x y z hxy (h1 z hz)
theorem insC_len (c : α → α → Int) (x : α) : ∀ l : List α, (insC c l x).length ≤ l.length + 1
  | [] => by simp [insC]
  | y :: r => by
    unfold insC
    have := insC_len c x r
    split
    · simp only [List.length_cons]; omega
    · split <;> simp
/-- Where a search for the first place that is not before finds it. -/
theorem insC_at {c : α → α → Int} {x : α} : ∀ {l : List α} {k : Nat}, k ≤ l.length → (∀ (j : Nat) y, j < k → l[j]? = some y → c y x < 0) → (∀ y, l[k]? = some y → ¬ c y x < 0) → insC c l x = if (l[k]?).any (fun y => decide (c y x = 0)) then l else l.take k ++ x :: l.drop k
  | [], k, hk, _, _ => by
    have : k = 0 := by simpa using hk
    subst this; rfl
  | y :: r, 0, _, _, h2 => by
    have := h2 y rfl
    unfold insC
    rw [if_neg this]
    show _ = if (some y).any _ then _ else _
    by_cases h : c y x = 0
    · rw [if_pos h, if_pos (by simp [h])]
    · rw [if_neg h, if_neg (by simp [h])]; rfl
  | y :: r, k + 1, hk, h1, h2 => by
    have h := h1 0 y (by omega) rfl
    unfold insC
    rw [if_pos h, insC_at (k := k) (by simpa using hk) (fun j z hj hz => h1 (j + 1) z (by omega) (by simpa using hz)) (fun z hz => h2 z (by simpa using hz))]
    rw [List.getElem?_cons_succ]
    split <;> simp
end
abbrev insT (l : List (List UInt8)) (x : List UInt8) : List (List UInt8) := insC Lib.compareBytes l x
abbrev insN (l : List Int) (x : Int) : List Int := insC cmpI l x
/-- One more finding of an entity. -/
def entAdd (e : Ent) (f : Fnd) (i : Int) : Ent := ⟨e.num, insT e.hosts f.host, if f.machine = 0 then e.machines else insN e.machines f.machine, e.fnds ++ [i]⟩
/-- The entity of r, of the findings before n. -/
def entK (l : List Fnd) (root : Nat → Nat) (r : Nat) : Nat → Ent
  | 0 => ⟨(r : Nat), [], [], []⟩
  | n + 1 => match l[n]? with
    | none => entK l root r n
    | some f => if root n = r then entAdd (entK l root r n) f (n : Nat) else entK l root r n
def rootsK (root : Nat → Nat) (n : Nat) : List Nat := (List.range n).filter fun r => decide (root r = r)
/-- The entities, of the findings before n. -/
def entsK (l : List Fnd) (root : Nat → Nat) (n : Nat) : List Ent := (rootsK root n).map fun r => entK l root r n
abbrev entsF (l : List Fnd) (gap : Int) : List Ent := entsK l (rootS l gap) l.length
theorem rootsK_succ (root : Nat → Nat) (n : Nat) : rootsK root (n + 1) = rootsK root n ++ if root n = n then [n] else [] := by
  unfold rootsK
  rw [List.range_succ, List.filter_append]
  congr 1
  by_cases h : root n = n <;> simp [h]
theorem rootsK_lt {root : Nat → Nat} {n r : Nat} (h : r ∈ rootsK root n) : r < n ∧ root r = r := by
  unfold rootsK at h
  rw [List.mem_filter, List.mem_range] at h
  exact ⟨h.1, by simpa using h.2⟩
theorem rootsK_asc (root : Nat → Nat) (n : Nat) : (rootsK root n).Pairwise (· < ·) := (List.pairwise_lt_range).filter _
theorem entK_none {l : List Fnd} {root : Nat → Nat} (hle : ∀ i, root i ≤ i) {r : Nat} : ∀ n, n ≤ r → entK l root r n = ⟨(r : Nat), [], [], []⟩
  | 0, _ => rfl
  | n + 1, h => by
    unfold entK
    have := hle n
    rw [entK_none hle n (by omega)]
    split
    · rfl
    · rw [if_neg (by omega)]
theorem entK_yes {l : List Fnd} {root : Nat → Nat} {r n : Nat} {f : Fnd} (hf : l[n]? = some f) (h : root n = r) : entK l root r (n + 1) = entAdd (entK l root r n) f (n : Nat) := by
  show (match l[n]? with | none => _ | some f => _) = _
  rw [hf]; exact if_pos h
theorem entK_no {l : List Fnd} {root : Nat → Nat} {r n : Nat} (h : ¬ root n = r) : entK l root r (n + 1) = entK l root r n := by
  show (match l[n]? with | none => _ | some f => _) = _
  split
  · rfl
  · exact if_neg h
theorem ent_num (l : List Fnd) (root : Nat → Nat) (r : Nat) : ∀ n, (entK l root r n).num = (r : Nat)
  | 0 => rfl
  | n + 1 => by
    unfold entK
    split
    · exact ent_num l root r n
    · split
      · exact ent_num l root r n
      · exact ent_num l root r n
theorem lt_of_atX {α : Type} {l : List α} {k : Nat} {x : α} (h : l[k]? = some x) : k < l.length := by
  rcases Nat.lt_or_ge k l.length with h' | h'
  · exact h'
  · rw [List.getElem?_eq_none h'] at h; cases h
/-- What the next finding makes of the entities: a new one perhaps, and then one more finding of one. -/
theorem entsK_succ {l : List Fnd} {root : Nat → Nat} (hle : ∀ i, root i ≤ i) {n : Nat} {f : Fnd} (hf : l[n]? = some f) {k : Nat} (hk : (rootsK root (n + 1))[k]? = some (root n)) :
    entsK l root (n + 1) = (entsK l root n ++ if root n = n then [(⟨(n : Nat), [], [], []⟩ : Ent)] else []).set k (entAdd (entK l root (root n) n) f (n : Nat)) := by
  have e1 : (entsK l root n ++ if root n = n then [(⟨(n : Nat), [], [], []⟩ : Ent)] else []) = (rootsK root (n + 1)).map fun r => entK l root r n := by
    rw [rootsK_succ, List.map_append]
    unfold entsK
    congr 1
    split
    · rw [List.map_singleton, entK_none hle n (Nat.le_refl _)]
    · rfl
  rw [e1]
  unfold entsK
  refine List.ext_getElem? fun j => ?_
  rw [List.getElem?_map, List.getElem?_set]
  have hkl := lt_of_atX hk
  by_cases hj : k = j
  · subst hj
    rw [if_pos rfl, List.length_map, if_pos hkl, hk]
    exact congrArg some (entK_yes hf rfl)
  · rw [if_neg hj, List.getElem?_map]
    cases hr : (rootsK root (n + 1))[j]? with
    | none => rfl
    | some r =>
      refine congrArg some (entK_no fun e => ?_)
      subst e
      have hp := rootsK_asc root (n + 1)
      have hjl := lt_of_atX hr
      rw [List.pairwise_iff_getElem] at hp
      rw [List.getElem?_eq_getElem hkl] at hk
      rw [List.getElem?_eq_getElem hjl] at hr
      simp only [Option.some.injEq] at hk hr
      rcases Nat.lt_or_gt_of_ne hj with h | h
      · have := hp k j hkl hjl h; omega
      · have := hp j k hjl hkl h; omega

end Go.Proofs.YtgdlhajfajddiaaGreat
namespace Cp
open Go Go.RowKit Go.Great
section
variable {P : Program} {n : Nat} {E : Env} {M0 : Av} {w0 : World} {S : Nat → Prop} {rs : List Res} {ε : Type} {res : ε → List Res}
def tab (res : ε → List Res) (es : List ε) : List Res := es.flatMap res
theorem tab_at : ∀ {es : List ε} {k : Nat} {x : ε}, es[k]? = some x → (tab res es).Perm (res x ++ tab res (es.eraseIdx k))
  | [], _, _, h => by simp at h
  | a :: es, 0, x, h => by
    simp only [List.getElem?_cons_zero, Option.some.injEq] at h
    subst h
    exact List.Perm.refl _
  | a :: es, k + 1, x, h => by
    have ih := tab_at (es := es) (k := k) (x := x) (by simpa using h)
    show (res a ++ tab res es).Perm (res x ++ (res a ++ tab res (es.eraseIdx k)))
    refine (ih.append_left (res a)).trans ?_
    rw [← List.append_assoc, ← List.append_assoc]
    exact List.perm_append_comm.append_right _
theorem tab_set : ∀ {es : List ε} {k : Nat} (x : ε), k < es.length → (res x ++ tab res (es.eraseIdx k)).Perm (tab res (es.set k x))
  | [], _, _, h => absurd h (Nat.not_lt_zero _)
  | a :: es, 0, x, _ => List.Perm.refl _
  | a :: es, k + 1, x, h => by
    have ih := tab_set (es := es) (k := k) x (by simpa using h)
    show (res x ++ (res a ++ tab res (es.eraseIdx k))).Perm (res a ++ tab res (es.set k x))
    refine List.Perm.trans ?_ (ih.append_left (res a))
    rw [← List.append_assoc, ← List.append_assoc]
    exact List.perm_append_comm.append_right _
theorem tab_snoc (es : List ε) (x : ε) : tab res (es ++ [x]) = tab res es ++ res x := by unfold tab; simp
theorem perm_front {a b c : List Res} (h : b.Perm c) : (a ++ b).Perm (a ++ c) := h.append_left a
theorem St.perm {rs' : List Res} (hp : rs.Perm rs') {a : Act} {w : World} (h : St n E (Hp M0 w0 S rs) a w) : St n E (Hp M0 w0 S rs') a w := by
  obtain ⟨M, h1, h2, h3, h4⟩ := h
  exact ⟨M, h1, h2, h3, HpH.perm hp h4⟩
/-- The resources of the k-th are brought to the front. -/
theorem Tr.focus {Q : Exit → Act → World → Prop} {c : Code} (heads : List Res) {es : List ε} {k : Nat} {x : ε} (hx : es[k]? = some x) (hrs : rs = heads ++ tab res es) (kk : Tr P n E (Hp M0 w0 S (res x ++ (heads ++ tab res (es.eraseIdx k)))) c Q) : Tr P n E (Hp M0 w0 S rs) c Q :=
  Tr.conv (fun _ _ hs => hs.perm (by
    subst hrs
    refine (perm_front (tab_at hx)).trans ?_
    rw [← List.append_assoc, ← List.append_assoc]
    exact List.perm_append_comm.append_right _)) kk
theorem unfocus_perm (heads : List Res) {es : List ε} {k : Nat} (x : ε) (hk : k < es.length) (hrs : rs = res x ++ (heads ++ tab res (es.eraseIdx k))) : rs.Perm (heads ++ tab res (es.set k x)) := by
  subst hrs
  refine List.Perm.trans ?_ (perm_front (tab_set x hk))
  rw [← List.append_assoc, ← List.append_assoc]
  exact List.perm_append_comm.append_right _
theorem Fin.unfocus {Q : Exit → Act → World → Prop} {e : Exit} (heads : List Res) {es : List ε} {k : Nat} (x : ε) (hk : k < es.length) (hrs : rs = res x ++ (heads ++ tab res (es.eraseIdx k))) (kk : Fin n E (Hp M0 w0 S (heads ++ tab res (es.set k x))) Q e) : Fin n E (Hp M0 w0 S rs) Q e :=
  Fin.conv (fun _ _ hs => hs.perm (unfocus_perm heads x hk hrs)) kk
theorem Tr.unfocus {Q : Exit → Act → World → Prop} {c : Code} (heads : List Res) {es : List ε} {k : Nat} (x : ε) (hk : k < es.length) (hrs : rs = res x ++ (heads ++ tab res (es.eraseIdx k))) (kk : Tr P n E (Hp M0 w0 S (heads ++ tab res (es.set k x))) c Q) : Tr P n E (Hp M0 w0 S rs) c Q :=
  Tr.conv (fun _ _ hs => hs.perm (unfocus_perm heads x hk hrs)) kk
theorem cells_fld {β : Type} {f : β → List Pr} {l : List β} {qs : List Pr} {sz : Nat} (hf : ∀ x, (f x).length = sz) {i j : Nat} {x : β} (h : l[i]? = some x) (hj : j < sz) : ((l.map f).flatten ++ qs)[i * sz + j]? = (f x)[j]? := by
  have h1 := cells_at (qs := qs) hf h
  rw [← List.getElem?_drop]
  rw [← h1, List.getElem?_take, if_pos hj]
theorem cells_fset {β : Type} {f : β → List Pr} {l : List β} {qs : List Pr} {sz : Nat} (hf : ∀ x, (f x).length = sz) {i j : Nat} {x y : β} {p : Pr} (h : l[i]? = some x) (hj : j < sz) (hy : (f x).set j p = f y) :
    ((l.map f).flatten ++ qs).take (i * sz + j) ++ [p] ++ ((l.map f).flatten ++ qs).drop (i * sz + j + 1) = ((l.set i y).map f).flatten ++ qs := by
  have hil : i < l.length := by rcases Nat.lt_or_ge i l.length with h' | h'; exact h'; rw [List.getElem?_eq_none h'] at h; cases h
  have h1 := cells_set (f := f) (qs := qs) (x := y) hf hil
  have h2 := cells_at (qs := qs) hf h
  have hfl := hf x
  have hfy := hf y
  rw [← h1]
  generalize hz : (l.map f).flatten ++ qs = z at *
  have hzl : i * sz + sz ≤ z.length := by
    have := congrArg List.length h2
    rw [List.length_take, List.length_drop, hfl] at this
    omega
  have e1 : z.take (i * sz + j) ++ [p] ++ z.drop (i * sz + j + 1) = z.set (i * sz + j) p := by
    rw [List.set_eq_take_append_cons_drop, if_pos (by omega)]; simp
  rw [e1]
  refine List.ext_getElem? fun m => ?_
  have hz2 : ∀ q, q < sz → z[i * sz + q]? = (f x)[q]? := fun q hq => by rw [← h2, List.getElem?_take, if_pos hq, List.getElem?_drop]
  have htl : (z.take (i * sz)).length = i * sz := by rw [List.length_take]; omega
  rw [List.append_assoc]
  rcases Nat.lt_or_ge m (i * sz) with hm | hm
  · rw [List.getElem?_set_ne (by omega), List.getElem?_append_left (by omega), List.getElem?_take, if_pos hm]
  · obtain ⟨q, rfl⟩ : ∃ q, m = i * sz + q := ⟨m - i * sz, by omega⟩
    rw [List.getElem?_append_right (by omega), htl, Nat.add_sub_cancel_left]
    rcases Nat.lt_or_ge q sz with hq | hq
    · rw [List.getElem?_append_left (by omega), ← hy]
      by_cases hqj : q = j
      · subst hqj
        rw [List.getElem?_set_self (by omega), List.getElem?_set_self (by omega)]
      · rw [List.getElem?_set_ne (by omega), List.getElem?_set_ne (by omega), hz2 q hq]
    · rw [List.getElem?_append_right (by omega), hfy, List.getElem?_drop, List.getElem?_set_ne (by omega)]
      congr 1; omega
/-- A slice of ours that has elements lies somewhere. -/
theorem Tr.openG {Q : Exit → Act → World → Prop} {c : Code} {e : TypeId} {sz : Nat} {rows : List (List Pr)} {v : Value} (j : Nat) (hj : rs[j]? = some (ownRes e sz rows v)) (hne : rows ≠ [])
    (k : ∀ (b cap : Nat) (sp : List Value), v = .slice (some ⟨b, 0, none⟩) rows.length cap → rows.length ≤ cap → cap ≤ maxLen → sp.length = (cap - rows.length) * sz → Tr P n E (Hp M0 w0 S (rs.set j (cellsRes true b e (rows.flatten ++ sp.map is)))) c Q) : Tr P n E (Hp M0 w0 S rs) c Q := by
  intro a w hs
  obtain ⟨M, h1, h2, h3, h4⟩ := hs
  have h4 : HpH M0 w0 S rs M w := h4
  rcases (h4.hold _ (List.mem_of_getElem? hj)).1 with ⟨h5, _⟩ | ⟨b, cap, sp, rfl, h5, h6, h7, h8⟩
  · exact absurd h5 hne
  · exact k b cap sp rfl h5 h6 h7 a w ⟨M, h1, h2, h3, h4.swap1 hj rfl rfl h8⟩
theorem St.closeG {e : TypeId} {sz b cap m : Nat} {rows : List (List Pr)} {sp : List Value} (j : Nat) (hj : rs[j]? = some (cellsRes true b e (rows.flatten ++ sp.map is))) (hm : rows.length = m) (h1 : m ≤ cap) (h2 : cap ≤ maxLen) (h3 : sp.length = (cap - m) * sz) {a : Act} {w : World} (h : St n E (Hp M0 w0 S rs) a w) : St n E (Hp M0 w0 S (rs.set j (ownRes e sz rows (.slice (some ⟨b, 0, none⟩) m cap)))) a w := by
  subst hm
  obtain ⟨M, g1, g2, g3, g4⟩ := h
  have g4 : HpH M0 w0 S rs M w := g4
  exact ⟨M, g1, g2, g3, g4.swap1 hj rfl rfl (.inr ⟨b, cap, sp, rfl, h1, h2, h3, (g4.hold _ (List.mem_of_getElem? hj)).1⟩)⟩
theorem Fin.closeG {Q : Exit → Act → World → Prop} {x : Exit} {e : TypeId} {sz b cap m : Nat} {rows : List (List Pr)} {sp : List Value} (j : Nat) (hj : rs[j]? = some (cellsRes true b e (rows.flatten ++ sp.map is))) (hm : rows.length = m) (h1 : m ≤ cap) (h2 : cap ≤ maxLen) (h3 : sp.length = (cap - m) * sz)
    (k : Fin n E (Hp M0 w0 S (rs.set j (ownRes e sz rows (.slice (some ⟨b, 0, none⟩) m cap)))) Q x) : Fin n E (Hp M0 w0 S rs) Q x := Fin.conv (fun _ _ hs => hs.closeG j hj hm h1 h2 h3) k
end
end Cp
namespace Cp
open Go Go.RowKit Go.Great
section
variable {P : Program} {n : Nat} {E : Env} {M0 : Av} {w0 : World} {S : Nat → Prop} {rs : List Res} {o : Oper}
theorem run_copy_rows {w : World} {dT sT ty e : TypeId} {g off dLen dCap sLen sCap sz m : Nat} {a : Addr} {cur : Array Value} {t : TypeId} {cs : List Value} (hu : P.underlying dT = some (.slice e)) (hz : sizeB P e = some sz)
    (hg : w.heap[g]? = some (.cells cur t (0, 0))) (hm : m = Nat.min sLen dLen) (hn : cs.length = m * sz) (hsrc : ∀ j v, cs[j]? = some v → w.cell? (a.add j) = some v) (hfit : off + cs.length ≤ cur.size) (h1 : ∀ v ∈ cs, v.oneCell' = true) :
    (Builtin.copy_ #[dT, sT] ty #[.slice (some ⟨g, off, none⟩) dLen dCap, .slice (some a) sLen sCap]).run P w = .ok (goInt m) (w.setRow g (cur.toList.take off ++ cs ++ cur.toList.drop (off + cs.length)).toArray) := by
  have hl := run_loadCells_list (P := P) w a cs hsrc
  have hst := run_storeCells_at P g off t cs 0 cur w hg (by simpa using hfit) h1
  unfold sizeB at hz
  cases hq : P.info? e with
  | none => rw [hq] at hz; cases hz
  | some i =>
    have hi : i.size = sz := by simpa [hq] using hz
    rw [hn] at hl
    simp [Builtin.copy_, run_underlying hu, Builtin.lenOf, Builtin.firstCells, Go.sizeOf, typeInfo, hq, hi, ← hm, hl, hst]
/-- copy from a slice that is read. -/
theorem ef_copyS {dT sT e : TypeId} {x y : Operand} {j : Nat} {new : Bool} {b off m cap sz d : Nat} {T : TypeId} {ps ps' : List Pr} {rows : List (List Pr)} (hg : o.guard = none) (hd : o.dst = some d) (ho : o.op = .call { callee := .builtin .copy, args := #[x, y], argTypes := #[dT, sT] })
    (ht : P.underlying dT = some (.slice e)) (hz : sizeB P e = some sz) (hsz : 0 < sz) (hx : VL E x (is (.slice (some ⟨b, off, none⟩) m cap))) (hy : VL E y (slice sz rows)) (hpos : 0 < rows.length) (hm : rows.length ≤ m) (hl : off + rows.length * sz ≤ ps.length)
    (hps : ps.take off ++ rows.flatten ++ ps.drop (off + rows.length * sz) = ps') : OpEf P M0 w0 S n j (SR.c (cellsRes new b T ps)) (SR.c (cellsRes new b T ps')) o E (int (rows.length : Nat)) := by
  refine ⟨hg, fun M w a rs hszn he hI hj => ?_⟩
  have h1 : a.eval x = _ := hx.ev he (by simp [ho, Op.operands, Call.operands])
  have h2 := hy.ev he (by simp [ho, Op.operands, Call.operands])
  obtain ⟨⟨_, cs, h4, h5, h6⟩, _⟩ := hI.hold _ (List.mem_of_getElem? hj)
  have h5l := h5.length
  have h2' := h2
  obtain ⟨A', c', hv, hmc, hcm', hA', hrows'⟩ := h2
  obtain ⟨ad', rfl⟩ : ∃ ad', A' = some ad' := by
    obtain ⟨_, b, hb, _⟩ := hrows' 0 _ (List.getElem?_eq_getElem hpos)
    exact ⟨b, hb⟩
  rw [hv] at h2'
  obtain ⟨news, hfl, hcell⟩ := slice_flat hsz h2'
  have hnl := hfl.1
  have hrun := run_copy_rows (P := P) (w := w) (sT := sT) (ty := o.type) (g := b) (off := off) (dLen := m) (dCap := cap) (sLen := rows.length) (sCap := c') (m := rows.length) (a := ad') (cur := cs.toArray) (t := T) (cs := news) ht hz h4 (Nat.min_eq_left hm).symm hnl (fun k u hk => (hcell k u hk).1) (by simp [hnl]; omega) hfl.2.1
  have hrun2 : (execOp a.eval o).run P w = .ok (.value (goInt rows.length)) (w.setRow b (cs.take off ++ news ++ cs.drop (off + news.length)).toArray) := by
    simp [execOp, ho, h1, hv, resolve, invoke, builtin, hrun]
  rw [hrun2]
  obtain ⟨h7, h8⟩ := HpH.write (qs := ps') (cs := cs.take off ++ news ++ cs.drop (off + news.length)) hI hj (by rw [← hps, hnl]; exact ((h5.take off).app (hfl.hl hsz)).app (h5.drop _))
    (fun c hc => by
      simp only [List.mem_append] at hc
      rcases hc with (hc | hc) | hc
      · exact h6 c (List.mem_of_mem_take hc)
      · exact hfl.2.1 c hc
      · exact h6 c (List.mem_of_mem_drop hc))
  exact ⟨M, rfl, h8, h7⟩
/-- copy within one block of ours: m rows from off2 to off. -/
theorem ef_copyB {dT sT e : TypeId} {x y : Operand} {j : Nat} {new : Bool} {b off off2 m dl cap cap2 sz d : Nat} {T : TypeId} {ps ps' : List Pr} (hg : o.guard = none) (hd : o.dst = some d) (ho : o.op = .call { callee := .builtin .copy, args := #[x, y], argTypes := #[dT, sT] })
    (ht : P.underlying dT = some (.slice e)) (hz : sizeB P e = some sz) (hx : VL E x (is (.slice (some ⟨b, off, none⟩) dl cap))) {sl : Nat} (hy : VL E y (is (.slice (some ⟨b, off2, none⟩) sl cap2))) (hm : m = Nat.min sl dl) (hl : off + m * sz ≤ ps.length) (hl2 : off2 + m * sz ≤ ps.length)
    (hps : ps.take off ++ (ps.drop off2).take (m * sz) ++ ps.drop (off + m * sz) = ps') : OpEf P M0 w0 S n j (SR.c (cellsRes new b T ps)) (SR.c (cellsRes new b T ps')) o E (int (m : Nat)) := by
  refine ⟨hg, fun M w a rs hszn he hI hj => ?_⟩
  have h1 : a.eval x = _ := hx.ev he (by simp [ho, Op.operands, Call.operands])
  have h2 : a.eval y = _ := hy.ev he (by simp [ho, Op.operands, Call.operands])
  obtain ⟨⟨_, cs, h4, h5, h6⟩, _⟩ := hI.hold _ (List.mem_of_getElem? hj)
  have h5l := h5.length
  have hnl : ((cs.drop off2).take (m * sz)).length = m * sz := by rw [List.length_take, List.length_drop]; omega
  have hrun := run_copy_rows (P := P) (w := w) (sT := sT) (ty := o.type) (g := b) (off := off) (dLen := dl) (dCap := cap) (sLen := sl) (sCap := cap2) (m := m) (a := ⟨b, off2, none⟩) (cur := cs.toArray) (t := T) (cs := (cs.drop off2).take (m * sz)) ht hz h4 hm hnl (fun k u hk => by
      rw [addr_add]
      rw [List.getElem?_take] at hk
      split at hk
      · rw [List.getElem?_drop] at hk; simp [World.cell?, h4, hk]
      · cases hk) (by simp [hnl]; omega) (fun v hv => h6 v (List.mem_of_mem_drop (List.mem_of_mem_take hv)))
  have hrun2 : (execOp a.eval o).run P w = .ok (.value (goInt m)) (w.setRow b (cs.take off ++ (cs.drop off2).take (m * sz) ++ cs.drop (off + ((cs.drop off2).take (m * sz)).length)).toArray) := by
    simp [execOp, ho, h1, h2, resolve, invoke, builtin, hrun]
  rw [hrun2]
  obtain ⟨h7, h8⟩ := HpH.write (qs := ps') (cs := cs.take off ++ (cs.drop off2).take (m * sz) ++ cs.drop (off + ((cs.drop off2).take (m * sz)).length)) hI hj (by rw [← hps, hnl]; exact ((h5.take off).app ((h5.drop off2).take _)).app (h5.drop _))
    (fun c hc => by
      simp only [List.mem_append] at hc
      rcases hc with (hc | hc) | hc
      · exact h6 c (List.mem_of_mem_take hc)
      · exact h6 c (List.mem_of_mem_drop (List.mem_of_mem_take hc))
      · exact h6 c (List.mem_of_mem_drop hc))
  exact ⟨M, rfl, h8, h7⟩
theorem run_overlaps_own {w : World} {tS tR e : TypeId} (ht : P.underlying tS = some (.slice e)) {size : Nat} (hz : ∀ w, (Go.sizeOf e).run P w = .ok size w) {a b : Addr} {la ca lb cb : Nat} (hne : a.block ≠ b.block) {tA tB : TypeId} {kA kB : Nat}
    (hsa : w.shape? a.block = some (tA, kA + 1)) (hsb : w.shape? b.block = some (tB, kB + 1)) (hfb : ∀ c : Addr, c.block = b.block → w.frozen? c = false) :
    (Extern.SlicesOverlaps.overlaps #[tS, tS] #[tR] #[.slice (some a) la ca, .slice (some b) lb cb]).run P w = .ok (.bool false) w := by
  have hnb : (a.block != b.block) = true := by simpa using hne
  have hnb' : (a.block == b.block) = false := by simpa using hne
  have hf1 := hfb b rfl
  have hf2 := hfb { block := b.block, off := kB + 1 } rfl
  change Sem.run P (α := Value) (do
    let some t := (#[tS, tS] : Array TypeId)[0]? | stuck "slices.overlaps: no parameter types"
    let .slice elem ← underlying t | stuck "slices.overlaps: slice type expected"
    let size ← sizeOf elem
    match (some a : Option Addr), (some b : Option Addr) with
    | some a, some b =>
      if la = 0 ∨ lb = 0 ∨ size = 0 then pure (Value.bool false)
      else if a.block != b.block && (← frozen a) && (← frozen b) then unsupported .addressObserved
      else do
        if a.block != b.block then do
          noView a; noView b
          if ← mayBeOne a b then return Value.bool ((← choose (.extern "sameAddr.stringBytes" 2)) == 1)
        pure (Value.bool (a.block == b.block && a.off < b.off + lb * size && b.off < a.off + la * size))
    | _, _ => pure (Value.bool false)) w = _
  by_cases h0 : la = 0 ∨ lb = 0 ∨ size = 0
  · simp [run_underlying ht, hz, h0]
  · cases hfa : w.frozen? a <;> cases hfa2 : w.frozen? { block := a.block, off := kA + 1 } <;>
      simp [run_underlying ht, hz, h0, hnb, hnb', frozen, noView, viewAt, mayBeOne, stringish, shape, Sem.run, hsa, hsb, hfa, hfa2, hf1, hf2]
theorem cell_shape {w : World} {a : Addr} {v : Value} (h : w.cell? a = some v) : ∃ t k, w.shape? a.block = some (t, k + 1) := by
  unfold World.cell? at h
  unfold World.shape?
  split at h
  · rename_i c t mk hh
    have hc : c[a.off]? = some v := by
      split at h
      · cases h
      · exact h
    have : a.off < c.size := by
      rcases Nat.lt_or_ge a.off c.size with h' | h'
      · exact h'
      · rw [Array.getElem?_eq_none h'] at hc; cases hc
    exact ⟨t, c.size - 1, by show some (t, c.size) = _; congr 2; omega⟩
  · cases h
theorem rd_overlaps {f : FuncId} {fn : Func} {x y : Operand} {ts : Array TypeId} {tS tR e : TypeId} {rows : List (List Pr)} {j : Nat} {new : Bool} {b off m cap sz : Nat} {T : TypeId} {ps : List Pr} (ho : o.op = .call { callee := .value (.func f), args := #[x, y], argTypes := ts }) (hf : P.funcs[f]? = some fn) (hname : (fn.name == "runtime.NumGoroutine") = false)
    (hb : fn.body.isNone = true) (hn : Extern.findNext fn = none) (hex : Extern.find fn = some (Extern.SlicesOverlaps.overlaps #[tS, tS] #[tR])) (ht : P.underlying tS = some (.slice e)) (hz : sizeB P e = some sz) (hsz : 0 < sz) (hx : VL E x (slice sz rows)) (hpos : 0 < rows.length) (hy : VL E y (is (.slice (some ⟨b, off, none⟩) m cap))) (hps : 0 < ps.length) :
    OpRd P M0 w0 S j (SR.c (cellsRes new b T ps)) o E (bool false) := by
  intro M w a rs he hI hj
  have h1 := hx.ev he (by simp [ho, Op.operands, Call.operands])
  have h2 : a.eval y = _ := hy.ev he (by simp [ho, Op.operands, Call.operands])
  obtain ⟨⟨hM, cs, h4, h5, h6⟩, _⟩ := hI.hold _ (List.mem_of_getElem? hj)
  have h5l := h5.length
  obtain ⟨A', c', hv, hmc, hcm', hA', hrows'⟩ := h1
  obtain ⟨hlen, ad', rfl, hrow⟩ := hrows' 0 _ (List.getElem?_eq_getElem hpos)
  obtain ⟨p0, hp0⟩ : ∃ p0, rows[0][0]? = some p0 := ⟨_, List.getElem?_eq_getElem (by rw [hlen]; exact hsz)⟩
  obtain ⟨u, hu, hnm, _⟩ := hrow 0 p0 hp0
  obtain ⟨tA, kA, hsa⟩ := cell_shape hu
  rw [add_block] at hsa
  have hne : ad'.block ≠ b := fun e1 => hnm (by rw [e1]; exact hM _)
  have hsb : w.shape? b = some (T, (cs.length - 1) + 1) := by unfold World.shape?; rw [h4]; show some (T, cs.toArray.size) = _; congr 2; simp; omega
  have hfb : ∀ c : Addr, c.block = b → w.frozen? c = false := fun c hc => by unfold World.frozen?; rw [hc, h4]; simp
  have hzr : ∀ w, (Go.sizeOf e).run P w = .ok sz w := fun w => run_size hz w
  have hov := run_overlaps_own (P := P) (w := w) (tR := tR) ht hzr (a := ad') (b := ⟨b, off, none⟩) (la := rows.length) (ca := c') (lb := m) (cb := cap) hne hsa hsb hfb
  have h3 : a.eval (.func f) = .func (.func f) #[] #[] := rfl
  have hrun : (execOp a.eval o).run P w = (callFunc f #[a.eval x, a.eval y]).run P w := by simp [execOp, ho, resolve, Deferred.ofValue, invoke, h3]
  rw [hrun, hv, h2, run_callFunc_extern hf hname hb hn hex, hov]
  exact ⟨rfl, Below.refl _ _⟩
/-- Elements of which the first cells are known. -/
def partRes (e : TypeId) (sz m : Nat) (ps : List Pr) (v : Value) : Res where
  blk := match v with | .slice (some a) _ _ => some a.block | _ => none
  new := true
  h M w := ∃ (b cap : Nat) (sp : List Value), v = .slice (some ⟨b, 0, none⟩) m cap ∧ m ≤ cap ∧ cap ≤ maxLen ∧ ps.length + sp.length = cap * sz ∧ (cellsRes true b e (ps ++ sp.map is)).h M w
  st M w M' w' he hk h := by
    obtain ⟨b, cap, sp, rfl, h1, h2, h3, h4⟩ := h
    exact ⟨b, cap, sp, rfl, h1, h2, h3, (cellsRes true b e (ps ++ sp.map is)).st M w M' w' he hk h4⟩
theorem app_zeros {M : Av} {w : World} {t tn ty e : TypeId} {sz bytes : Nat} {zs : List Value} {i k cap b : Nat} {j j2 : Nat} {kn : IntKind} {T : TypeId} {ps : List Pr} (ht : P.underlying t = some (.slice e)) (htn : P.underlying tn = some (.int kn)) (hz : sizeB P e = some sz) (hby : bytesB P e = some bytes) (hze : zeroB P e = some zs) (hzl : zs.length = sz) (hone : zs.all (·.oneCell') = true) (hsz : 0 < sz)
    (h : HpH M0 w0 S rs M w) (hj : rs[j]? = some noRes) (hj2 : rs[j2]? = some (cellsRes true b T ps)) (hil : i * sz ≤ ps.length) (hk : 0 < k) (hg : cap < i + k) (hmax : i + k ≤ maxLen) (hfit : (i + k) * bytes ≤ 140737488355328) :
    ∃ v' w' M', (Builtin.append_ #[t, tn] ty #[.slice (some ⟨b, 0, none⟩) i cap, .int .i64 (k : Nat)]).run P w = .ok v' w' ∧ (lens (i + k)).h M' w' v' ∧ Ext M w M' w' ∧ HpH M0 w0 S (rs.set j (partRes e sz (i + k) (ps.take (i * sz)) v')) M' w' := by
  obtain ⟨⟨_, cs0, g4, g5, g6⟩, _⟩ := h.hold _ (List.mem_of_getElem? hj2)
  have g5l := g5.length
  unfold sizeB at hz
  unfold bytesB at hby
  unfold zeroB at hze
  cases hi : P.info? e with
  | none => rw [hi] at hz; cases hz
  | some ii =>
    rw [hi] at hz hby hze
    simp only [Option.map_some, Option.some.injEq, Option.map_eq_some_iff] at hz hby hze
    obtain ⟨z, hzz, hze⟩ := hze
    have hzc : z.cells.size = sz := by rw [← hzl, ← hze]; simp
    have hol : (cs0.take (i * sz)).length = i * sz := by rw [List.length_take]; omega
    have hold : (Builtin.firstCells ii.size i (.slice (some ⟨b, 0, none⟩) i cap)).run P w.drew = .ok (cs0.take (i * sz)).toArray w.drew := by
      have := run_loadCells_list (P := P) w.drew ⟨b, 0, none⟩ (cs0.take (i * sz)) (fun q u hq => by
        rw [addr_add]
        rw [List.getElem?_take] at hq
        split at hq
        · have hh : w.drew.heap[b]? = some (.cells cs0.toArray T (0, 0)) := g4
          simp [World.cell?, hh, hq]
        · cases hq)
      rw [hol] at this
      simp only [Builtin.firstCells, hz]
      rw [Nat.mul_comm] at this ⊢
      first | exact this | (simp; exact this)
    have hrun := Lib.run_append_grow_zeros (P := P) w t tn ty e ii z .i64 kn ht htn hi hzz (some ⟨b, 0, none⟩) i cap (cs0.take (i * sz)) hold k hk (by rw [hz]; exact hsz) hg (by unfold maxLen at hmax; omega) (by rw [hby]; have := Nat.mul_le_mul_right bytes (show k ≤ i + k by omega); omega) (by rw [hby]; exact growslice_fits hg hfit)
    generalize hcap : grownCap w (i + k) cap e = cap' at hrun
    have hge : i + k ≤ cap' := by rw [← hcap]; exact grownCap_ge _ _ _ _
    have hle : cap' ≤ maxLen := by rw [← hcap]; exact grownCap_le_maxLen _ _ _ _ hmax
    generalize hzc1 : Builtin.zeroCells z.cells k = z1 at hrun
    generalize hzc2 : Builtin.zeroCells z.cells (cap' - (i + k)) = z2 at hrun
    have hz1 : z1.size = k * sz := by rw [← hzc1, size_zeroCells, hzc]
    have hz2 : z2.size = (cap' - (i + k)) * sz := by rw [← hzc2, size_zeroCells, hzc]
    have ho1 : ∀ c ∈ z1.toList, c.oneCell' = true := by rw [← hzc1]; exact zeroCells_one hze hone
    have ho2 : ∀ c ∈ z2.toList, c.oneCell' = true := by rw [← hzc2]; exact zeroCells_one hze hone
    generalize hcs : ((cs0.take (i * sz)).toArray ++ z1 ++ z2) = cs at hrun
    have hcsl : cs.toList = cs0.take (i * sz) ++ (z1.toList ++ z2.toList) := by rw [← hcs]; simp
    have hone' : ∀ c ∈ cs.toList, c.oneCell' = true := by
      intro c hc
      rw [hcsl] at hc
      simp only [List.mem_append] at hc
      rcases hc with hc | hc | hc
      · exact g6 c (List.mem_of_mem_take hc)
      · exact ho1 c hc
      · exact ho2 c hc
    have hb : Below w.heap.size w (w.drew.alloc (.cells cs e)) := ((Below.refl _ _).drew).alloc (Nat.le_refl _) _
    have h2 := Ext.below (M := M) hb
    have hext : Ext M w (fun b o => M b o ∨ b = w.heap.size) (w.drew.alloc (.cells cs e)) := by
      refine ⟨h2.size, fun a v hc hm => ⟨fun hx => ?_, (h2.keep a v hc hm).2⟩, fun b o ho hp hm => ⟨fun hx => ?_, (h2.obj b o ho hp hm).2⟩⟩
      · rcases hx with hx | hx
        · exact hm hx
        · have := cell_lt hc; omega
      · rcases hx with hx | hx
        · exact hm hx
        · subst hx; simp at ho
    have hs1 : (w.drew.alloc (.cells cs e)).heap.size = w.heap.size + 1 := by simp
    refine ⟨_, _, fun b o => M b o ∨ b = w.heap.size, hrun, ⟨_, _, rfl⟩, hext, ?_⟩
    refine h.replace hj hext hb.os hb.tape hb.output (fun k hk _ => hb.block k hk) rfl (fun b o hm _ => .inl hm) (fun b o hx => ?_) ?_ rfl (fun b hbk => ?_)
    · rcases hx with hx | hx
      · have := h.bd _ _ hx; omega
      · omega
    · refine ⟨w.heap.size, cap', z1.toList ++ z2.toList, rfl, hge, hle, ?_, fun o => .inr rfl, cs.toList, ?_, ?_, hone'⟩
      · rw [List.length_take, Nat.min_eq_left hil, List.length_append, Array.length_toList, Array.length_toList, hz1, hz2, ← Nat.add_mul, ← Nat.add_mul]; congr 1; omega
      · have hh : (w.drew.alloc (.cells cs e)).heap[w.heap.size]? = some (.cells cs e (0, 0)) := heap_alloc_new w.drew _
        rw [hh]
      · rw [hcsl]; exact ((g5.take _).st hext).app (hl_is _ _ _)
    · have hbk' : some w.heap.size = some b := hbk
      injection hbk' with e1
      subst e1
      exact ⟨by rw [hs1]; omega, .inr (Nat.le_refl _)⟩
theorem TO.appzs {Q : Exit → Act → World → Prop} {ops : Array Oper} {r : List Oper} {t tn e : TypeId} {x y : Operand} (j j2 : Nat) {sz bytes d : Nat} {zs : List Value} {i k cap b : Nat} {kk : Int} {kn : IntKind} {T : TypeId} {ps : List Pr} (hj : rs[j]? = some noRes) (hj2 : rs[j2]? = some (cellsRes true b T ps)) (hg : o.guard = none) (hd : o.dst = some d) (hn : d < n) (ho : o.op = .call { callee := .builtin .append, args := #[x, y], argTypes := #[t, tn] })
    (ht : P.underlying t = some (.slice e)) (htn : P.underlying tn = some (.int kn)) (hz : sizeB P e = some sz) (hby : bytesB P e = some bytes) (hze : zeroB P e = some zs) (hzl : zs.length = sz) (hone : zs.all (·.oneCell') = true) (hsz : 0 < sz)
    (hx : VL E x (is (.slice (some ⟨b, 0, none⟩) i cap))) (hy : VL E y (int kk)) (hkk : kk = (k : Nat)) (hil : i * sz ≤ ps.length) (hk : 0 < k) (hgr : cap < i + k) (hmax : i + k ≤ maxLen) (hfit : (i + k) * bytes ≤ 140737488355328)
    (kq : ∀ (b2 cap2 : Nat) (sp : List Value), i + k ≤ cap2 → cap2 ≤ maxLen → (ps.take (i * sz)).length + sp.length = cap2 * sz → TO P n ops r ((d, is (.slice (some ⟨b2, 0, none⟩) (i + k) cap2)) :: E) (Hp M0 w0 S (rs.set j (cellsRes true b2 e (ps.take (i * sz) ++ sp.map is)))) Q) : TO P n ops (o :: r) E (Hp M0 w0 S rs) Q :=
  TO.eff hg fun K M w a hszn hdf he hI hK => by
    have hI : HpH M0 w0 S rs M w := hI
    have hef := looks_env (o := o) he
    have h1 : a.eval x = _ := hx.ev hef (by simp [ho, Op.operands, Call.operands])
    have h2 : a.eval y = .int .i64 kk := hy.ev hef (by simp [ho, Op.operands, Call.operands])
    have hjl : j < rs.length := by rcases Nat.lt_or_ge j rs.length with h | h; exact h; rw [List.getElem?_eq_none h] at hj; cases hj
    obtain ⟨v', w', M', hrun, h3, h4, h5⟩ := app_zeros (ty := o.type) ht htn hz hby hze hzl hone hsz hI hj hj2 hil hk hgr hmax hfit
    have hrun2 : (execOp a.eval o).run P w = .ok (.value v') w' := by rw [hkk] at h2; simp [execOp, ho, resolve, invoke, builtin, h1, h2, hrun]
    obtain ⟨b2, cap2, sp, rfl, q1, q2, q3, q4⟩ := (h5.hold _ (List.mem_of_getElem? (List.getElem?_set_self hjl))).1
    have h6 : HpH M0 w0 S (rs.set j (cellsRes true b2 e (ps.take (i * sz) ++ sp.map is))) M' w' := by
      have := h5.swap1 (r' := cellsRes true b2 e (ps.take (i * sz) ++ sp.map is)) (List.getElem?_set_self hjl) rfl rfl q4
      rwa [List.set_set] at this
    have hgv : GivesR P M0 w0 S o a M w (is (.slice (some ⟨b2, 0, none⟩) (i + k) cap2)) j (SR.c (cellsRes true b2 e (ps.take (i * sz) ++ sp.map is))) rs ((execOp a.eval o).run P w) := by
      rw [hrun2]; exact ⟨M', rfl, h4, h6⟩
    refine step_ef hgv fun v w'' M'' hv hxt hI' => hK _ _ _ _ (kq b2 cap2 sp q1 q2 q3) ⟨M'', by rw [put_size]; exact hszn, by rw [put_defers]; exact hdf, ?_, hI'⟩
    intro s q hq
    simp only [List.lookup] at hq
    by_cases hs : s = d
    · subst hs; simp at hq; subst hq; rw [hd, put_same (by rw [hszn]; exact hn)]; exact hv
    · rw [show (s == d) = false by simpa using hs] at hq; rw [hd, put_other hs]; exact q.st _ _ _ _ _ hxt (he s q hq)
end
end Cp
namespace Go.Proofs.YtgdlhajfajddiaaGreat
open Go Go.RowKit Cp

/-- What an array of parents says: each leads to a lower one of its set, and in the end to the least. -/
structure UF (p : List Int) (R : Nat → Nat) : Prop where
  len : p.length = 400
  rep : RepR R
  par : ∀ x, x < 400 → ∃ y : Nat, p[x]? = some (y : Int) ∧ y ≤ x ∧ R y = R x ∧ (y = x ↔ R x = x)
theorem UF.join {p : List Int} {R : Nat → Nat} (h : UF p R) {i k : Nat} (hi : i < 400) (hk : k < 400) : UF (p.set (max (R i) (R k)) ((min (R i) (R k) : Nat) : Int)) (joinR R i k) := by
  have h1 := h.rep.le i
  have h2 := h.rep.le k
  have h3 := h.rep.idem i
  have h4 := h.rep.idem k
  have hmin : R (min (R i) (R k)) = min (R i) (R k) := by rcases Nat.le_total (R i) (R k) with h1 | h1; rw [Nat.min_eq_left h1]; exact h3; rw [Nat.min_eq_right h1]; exact h4
  have hmax : R (max (R i) (R k)) = max (R i) (R k) := by rcases Nat.le_total (R i) (R k) with h1 | h1; rw [Nat.max_eq_right h1]; exact h4; rw [Nat.max_eq_left h1]; exact h3
  refine ⟨by rw [List.length_set]; exact h.len, joinR_rep h.rep i k, fun x hx => ?_⟩
  by_cases e : x = max (R i) (R k)
  · subst e
    refine ⟨min (R i) (R k), List.getElem?_set_self (by rw [h.len]; omega), by omega, ?_, ?_⟩
    · unfold joinR; rw [hmin, hmax, if_pos rfl]; split <;> rfl
    · unfold joinR; rw [hmax, if_pos rfl]
  · obtain ⟨y, hy, h5, h6, h7⟩ := h.par x hx
    refine ⟨y, by rw [List.getElem?_set_ne (by omega)]; exact hy, h5, by unfold joinR; rw [h6], ?_⟩
    have hle := h.rep.le x
    constructor
    · intro e2
      have hr := h7.1 e2
      unfold joinR; rw [if_neg (by omega)]; exact hr
    · intro e2
      unfold joinR at e2
      by_cases hm : R x = max (R i) (R k)
      · rw [if_pos hm] at e2
        rw [← e2, hmin] at hm
        omega
      · rw [if_neg hm] at e2; exact h7.2 e2
def idsTo (k : Nat) : List Int := (List.range k).map (fun n => ((n : Nat) : Int)) ++ List.replicate (400 - k) 0
theorem idsTo_set {k : Nat} (hk : k < 400) : (idsTo k).set k ((k : Nat) : Int) = idsTo (k + 1) := by
  unfold idsTo
  rw [List.set_append_right _ _ (by simp)]
  simp only [List.length_map, List.length_range, Nat.sub_self]
  rw [show 400 - k = (400 - (k + 1)) + 1 by omega, List.replicate_succ, List.set_cons_zero, List.range_succ, List.map_append, List.append_assoc]; rfl
theorem idsTo_len {k : Nat} (hk : k ≤ 400) : (idsTo k).length = 400 := by unfold idsTo; simp; omega
theorem UF.start : UF (idsTo 400) (fun x => x) :=
  ⟨idsTo_len (Nat.le_refl _), ⟨fun _ => Nat.le_refl _, fun _ => rfl⟩, fun x hx => ⟨x, by unfold idsTo; rw [List.getElem?_append_left (by simpa using hx), List.getElem?_map, List.getElem?_range hx]; rfl, Nat.le_refl _, rfl, by simp⟩⟩
abbrev arr (p : List Int) : List Pr := p.map fun n => int n
theorem arr_at {p : List Int} {i : Nat} {x : Int} (h : p[i]? = some x) : (arr p)[i]? = some (int x) := by rw [List.getElem?_map, h]; rfl
theorem arr_atO {p : List Int} {i : Int} {x : Int} (h : p[i.toNat]? = some x) : (arr p)[0 + i.toNat * 1]? = some (int x) := by rw [Nat.zero_add, Nat.mul_one]; exact arr_at h
theorem arr_set {p : List Int} {i : Nat} {x : Int} (h : i < p.length) : (arr p).take i ++ [int x] ++ (arr p).drop (i + 1) = arr (p.set i x) := by
  unfold arr
  rw [List.map_set, List.set_eq_take_append_cons_drop, if_pos (by simpa using h)]; simp

end Go.Proofs.YtgdlhajfajddiaaGreat
namespace Go.Proofs.YtgdlhajfajddiaaGreat
open Go Go.RowKit Cp

theorem ordF_host {a b : Fnd} (h : ordF a b < 0) : Lib.compareBytes a.host b.host ≤ 0 ∧ (a.host = b.host → cmpI a.machine b.machine ≤ 0 ∧ (a.machine = b.machine → cmpI a.day b.day ≤ 0)) := by
  have h : orL (keysF a b) < 0 := h
  unfold keysF at h
  rw [orL_cons, orL_cons, orL_cons] at h
  refine ⟨?_, fun e => ⟨?_, fun e2 => ?_⟩⟩
  · split at h <;> omega
  · rw [if_pos ((cmp_zero _ _).2 e)] at h
    split at h <;> omega
  · rw [if_pos ((cmp_zero _ _).2 e), if_pos (cmpI_zero.2 e2)] at h
    split at h <;> omega
theorem cmpI_le {a b : Int} (h : cmpI a b ≤ 0) : a ≤ b := by
  unfold cmpI at h
  by_cases h1 : a < b
  · omega
  · rw [if_neg h1] at h
    by_cases h2 : b < a
    · rw [if_pos h2] at h; omega
    · omega
theorem norm_day {l : List Fnd} (hl : AdjF l) {j k : Nat} {f g : Fnd} (hf : l[j]? = some f) (hg : l[k]? = some g) (hjk : j < k) (hh : f.host = g.host) (hm : f.machine = g.machine) : f.day ≤ g.day :=
  cmpI_le (((ordF_host (strict_idx hl hf hg hjk)).2 hh).2 hm)
theorem norm_hosts {l : List Fnd} (hl : AdjF l) {i j k : Nat} {e f g : Fnd} (he : l[i]? = some e) (hf : l[j]? = some f) (hg : l[k]? = some g) (hij : i < j) (hjk : j < k) (hh : e.host = g.host) : f.host = g.host := by
  have h1 := (ordF_host (strict_idx hl he hf hij)).1
  have h2 := (ordF_host (strict_idx hl hf hg hjk)).1
  have hs := cmp_swap f.host e.host
  rw [hh] at h1 hs
  have hs := cmp_swap f.host g.host
  exact (cmp_zero _ _).1 (by omega)
theorem loose_iff {l : List Fnd} {gap : Int} {i : Nat} {f : Fnd} (hf : l[i]? = some f) : mOf l gap i = 0 ↔ (f.machine = 0 ∧ near l f gap < 0) := ⟨loose_of hf, fun h => mOf_loose hf h.1 h.2⟩
/-- One that is loose, and the next loose one of the host below it. -/
theorem rootS_found {l : List Fnd} {gap : Int} (hl : AdjF l) {i k : Nat} {f g : Fnd} (hf : l[i]? = some f) (hg : l[k]? = some g) (hi : mOf l gap i = 0) (hki : k < i) (hk : mOf l gap k = 0) (hh : g.host = f.host) (hno : ∀ j, k < j → j < i → ∀ e, l[j]? = some e → ¬ (e.host = f.host ∧ mOf l gap j = 0)) :
    rootS l gap i = if f.day - g.day ≤ gap then rootS l gap k else i := by
  have hmax := prevK_max i k hki hk
  have hil := lt_of_atX hf
  have hp : prevK l gap i = (k : Nat) := by
    rcases prevK_in l gap i with h | ⟨h1, h2, h3⟩
    · omega
    · rcases Nat.lt_or_eq_of_le (show k ≤ (prevK l gap i).toNat by omega) with h4 | h4
      · exfalso
        obtain ⟨e, he⟩ := at_ (l := l) (k := (prevK l gap i).toNat) (by omega)
        exact hno _ h4 h2 e he ⟨norm_hosts hl hg he hf h4 h2 hh, h3⟩
      · omega
  have hd := norm_day hl hg hf hki hh (by rw [(loose_of hg hk).1, (loose_of hf hi).1])
  have hdist : dist f g = f.day - g.day := by unfold dist; omega
  have hn : nextTo l gap (prevK l gap i).toNat i = decide (f.day - g.day ≤ gap) := by
    rw [hp]
    show (match l[((k : Nat) : Int).toNat]?, l[i]? with | some g, some f => _ | _, _ => _) = _
    rw [Int.toNat_natCast, hg, hf]
    show decide (g.host = f.host ∧ dist f g ≤ gap) = _
    rw [hdist, decide_eq_decide]
    exact ⟨fun h => h.2, fun h => ⟨hh, h⟩⟩
  by_cases hg2 : f.day - g.day ≤ gap
  · rw [if_pos hg2, rootS_loose hi (by omega) (by rw [hn]; simpa using hg2), hp, Int.toNat_natCast]
  · rw [if_neg hg2, rootS_alone hi (by rw [hn]; simp; omega)]
theorem rootS_lone {l : List Fnd} {gap : Int} {i : Nat} {f : Fnd} (hf : l[i]? = some f) (hi : mOf l gap i = 0) (hno : ∀ j, j < i → ∀ e, l[j]? = some e → ¬ (e.host = f.host ∧ mOf l gap j = 0)) : rootS l gap i = i := by
  refine rootS_alone hi ?_
  rintro ⟨h1, h2⟩
  have hil := lt_of_atX hf
  rcases prevK_in l gap i with h | ⟨_, h3, h4⟩
  · omega
  · obtain ⟨e, he⟩ := at_ (l := l) (k := (prevK l gap i).toNat) (by omega)
    have h2' : (match l[(prevK l gap i).toNat]?, l[i]? with | some g, some f => decide (g.host = f.host ∧ dist f g ≤ gap) | _, _ => false) = true := h2
    rw [he, hf] at h2'
    exact hno _ h3 e he ⟨(of_decide_eq_true h2').1, h4⟩
theorem rootS_first {l : List Fnd} {gap : Int} {i k : Nat} (h : ¬ mOf l gap i = 0) (hki : k ≤ i) (hk : mOf l gap k = mOf l gap i) (hno : ∀ j, j < k → ¬ mOf l gap j = mOf l gap i) : rootS l gap i = k := by
  obtain ⟨h1, h2⟩ := rootS_m h
  rcases Nat.lt_trichotomy (rootS l gap i) k with h3 | h3 | h3
  · exact absurd h1 (hno _ h3)
  · exact h3
  · exact absurd hk (h2 _ h3)

end Go.Proofs.YtgdlhajfajddiaaGreat
