/-
  AssetLate: whatever the input, the law of this name returns true and its arguments read as before. No conditions.
-/
import Derived.Lib.AppendZeros
import Derived.Test.YthmnoekgicggnaaGreatRows
import Derived.Test.YthmnoekgicggnaaGreatLateWP5
set_option linter.all false
namespace Go.Proofs.YthmnoekgicggnaaGreat
open Go Go.RowKit Cp
instance : Inhabited Fnd := ⟨⟨0, [], 0, 0, 0, 0, [], 0, 0, 0, []⟩⟩
set_option maxRecDepth 20000 in
theorem w_sinsG {l : List Fnd} {c : Fnd × Fnd → Int} {b0 cap len : Nat} {sp : List Value} {a b : Int} (hln : l.length = len) (hll : len ≤ 1000000) (hw : Go.Sort.SWO (ltc c)) (h0 : 0 ≤ a) (hab : a ≤ b) (hb : b ≤ len) : FunM Tryz.prog 142 [is (.slice (some ⟨b0, 0, none⟩) len cap), int a, int b, clo Tryz.prog (fun x : Fnd × Fnd => [agg (rowF x.1), agg (rowF x.2)]) (fun x => int (c x))] (unit_) (cellsRes true b0 42 ((l.map rowF).flatten ++ sp.map is)) (fun _ => relRes b0 42 rowF (SortL c a b l) (sp.map is)) := by
 refine FunM.of Tryz.func142 rfl rfl (by exact Nat.le_of_ble_eq_true rfl) fun M0 w0 S rs M1 w1 => ?_
 refine Tr.seq (Tr.reg0 ?_)
 refine Ch.mv rfl rfl rfl rfl rfl ?_
 first
  | (refine Ch.oo rfl rfl rfl (ok_add rfl (vl rfl) (vl rfl) ?hin) ?_; case hin => unfold InI; omega)
  | refine Ch.oo rfl rfl rfl (ok_int rfl (vl rfl) (vl rfl) rfl) ?_
 refine Ch.as rfl rfl rfl rfl rfl ?_
 refine Ch.nil (Fin.go (Tr.block ?_))
 refine Tr.loopD2V0 [(0, _), (1, _), (2, _), (3, _)] ⟨ke rfl, ke rfl, ke rfl, ke rfl, trivial⟩ (fun (i : Int) (st : List Fnd) => [(8, int i)]) (fun (i : Int) (st : List Fnd) => Hp M0 w0 S (cellsRes true b0 42 ((st.map rowF).flatten ++ sp.map is) :: extRes M1 w1 :: rs)) (fun (i : Int) (st : List Fnd) => a < i ∧ st.length = len ∧ Go.Sort.insOuter (ltc c) a.toNat b.toNat i.toNat st.toArray = Go.Sort.insertionSort (ltc c) l.toArray a.toNat b.toNat) (fun (i : Int) (st : List Fnd) => (b - i).toNat) (a + 1) (l)  (⟨by omega, by omega, inso_start h0⟩) ⟨ke rfl, trivial⟩ (fun _ _ h => h) ?_
 rintro i st  ⟨hi1, hsl, hso⟩
 refine Tr.seq (Tr.seq (Tr.reg0 ?_))
 refine Ch.mv rfl rfl rfl rfl rfl ?_
 refine Ch.mv rfl rfl rfl rfl rfl ?_
 refine Ch.oo rfl rfl rfl (ok_int rfl (vl rfl) (vl rfl) rfl) ?_
 refine Ch.nil (Fin.go ?_)
 refine Tr.cn rfl (fun h1 q1 => ?_) (fun h1 q1 => ?_)
 ·
  have hib : i < b := of_decide_eq_true h1
  refine Tr.skip (Fin.go (Tr.seq (Tr.block (Tr.seq (Tr.reg0 ?_)))))
  refine Ch.mv rfl rfl rfl rfl rfl ?_
  refine Ch.as rfl rfl rfl rfl rfl ?_
  refine Ch.nil (Fin.go (Tr.block ?_))
  refine Tr.loopD2V0 [(0, _), (1, _), (2, _), (3, _), (8, _)] ⟨ke rfl, ke rfl, ke rfl, ke rfl, ke rfl, trivial⟩ (fun (j : Int) (st2 : List Fnd) => [(9, int j)]) (fun (j : Int) (st2 : List Fnd) => Hp M0 w0 S (cellsRes true b0 42 ((st2.map rowF).flatten ++ sp.map is) :: extRes M1 w1 :: rs)) (fun (j : Int) (st2 : List Fnd) => (a ≤ j ∧ j ≤ i) ∧ st2.length = len ∧ Go.Sort.insInner (ltc c) a.toNat j.toNat st2.toArray = Go.Sort.insInner (ltc c) a.toNat i.toNat st.toArray) (fun (j : Int) (st2 : List Fnd) => (j - a).toNat) (i) (st)  (⟨⟨by omega, by omega⟩, hsl, rfl⟩) ⟨ke rfl, trivial⟩ (fun _ _ h => h) ?_
  rintro j st2  ⟨⟨hj1, hj2⟩, hsl2, hso2⟩
  refine Tr.seq (Tr.seq ?_)
  refine Tr.reg1 mixed (by kernel_rfl) ?_
  refine Ch.mv rfl rfl rfl rfl rfl ?_
  refine Ch.mv rfl rfl rfl rfl rfl ?_
  refine Ch.oo rfl rfl rfl (ok_int rfl (vl rfl) (vl rfl) rfl) ?_
  refine Ch.mv rfl rfl rfl rfl rfl ?_
  refine Ch.cs 21 rfl (fun h2 q2 => ?_) (fun h2 q2 => ?_)
  ·
   iterate 3 refine Ch.ym h2 rfl rfl rfl rfl rfl rfl rfl ?_
   refine Ch.y h2 rfl rfl rfl rfl rfl (okp_indexSl rfl Tryz.underlying27 sz42 (vl rfl) (vl rfl) (by omega) (by omega)) ?_
   refine Ch.y h2 rfl rfl rfl rfl rfl (ok_rd 0 rfl (rd_loadA rfl agg42 sz42 (vl rfl) (cells_atG (f := rowF) (fun _ => rfl) (by omega)) rfl)) ?_
   refine Ch.ym h2 rfl rfl rfl rfl rfl rfl rfl ?_
   refine Ch.ym h2 rfl rfl rfl rfl rfl rfl rfl ?_
   first
    | (refine Ch.y h2 rfl rfl rfl rfl rfl (ok_sub rfl (vl rfl) (vl rfl) ?hin) ?_; case hin => unfold InI; omega)
    | refine Ch.y h2 rfl rfl rfl rfl rfl (ok_int rfl (vl rfl) (vl rfl) rfl) ?_
   refine Ch.y h2 rfl rfl rfl rfl rfl (okp_indexSl rfl Tryz.underlying27 sz42 (vl rfl) (vl rfl) (by omega) (by omega)) ?_
   refine Ch.y h2 rfl rfl rfl rfl rfl (ok_rd 0 rfl (rd_loadA rfl agg42 sz42 (vl rfl) (cells_atG (f := rowF) (fun _ => rfl) (by omega)) rfl)) ?_
   refine Ch.y h2 rfl rfl rfl rfl rfl (ok_callc (_, _) rfl (vl rfl) ⟨ke rfl, ke rfl, trivial⟩) ?_
   refine Ch.y h2 rfl rfl rfl rfl rfl (ok_int rfl (vl rfl) (vl rfl) rfl) ?_
   refine Ch.oo rfl rfl rfl (ok_pick_t rfl (vl rfl) h2 (vl rfl)) ?_
   refine Ch.nil (Fin.go ?_)
   refine Tr.w7 0 1 2 3 8 9 34 rfl rfl rfl rfl rfl rfl rfl ?_
   refine Tr.cn rfl (fun h3 q3 => ?_) (fun h3 q3 => ?_)
   ·
    have := h3
    refine Tr.skip (Fin.go (Tr.seq (Tr.block ?_)))
    refine Tr.regX mixed [none, none, none, none, none, none, none, none, none, some (0, 0, false, 0), none, none, none, some (0, 0, false, 0), none, some (0, 0, true, 0), none, some (0, 0, true, 0)] (by kernel_rfl) ?_
    iterate 4 refine Cx.mv rfl rfl rfl rfl rfl ?_
    first
     | (refine Cx.oo rfl rfl rfl (fun _ => ok_sub rfl (vl rfl) (vl rfl) ?hin) ?_; case hin => unfold InI; omega)
     | refine Cx.oo rfl rfl rfl (fun _ => ok_int rfl (vl rfl) (vl rfl) rfl) ?_
    refine Cx.mv rfl rfl rfl rfl rfl ?_
    refine Cx.mv rfl rfl rfl rfl rfl ?_
    first
     | (refine Cx.oo rfl rfl rfl (fun _ => ok_sub rfl (vl rfl) (vl rfl) ?hin) ?_; case hin => unfold InI; omega)
     | refine Cx.oo rfl rfl rfl (fun _ => ok_int rfl (vl rfl) (vl rfl) rfl) ?_
    refine Cx.oo rfl rfl rfl (fun _ => okp_indexSl rfl Tryz.underlying27 sz42 (vl rfl) (vl rfl) (by omega) (by omega)) ?_
    refine Cx.rd 0 rfl rfl rfl (by decide) (rd_loadA rfl agg42 sz42 (vl rfl) (cells_atG (f := rowF) (fun _ => rfl) (by omega)) rfl) ?_
    refine Cx.mv rfl rfl rfl rfl rfl ?_
    refine Cx.mv rfl rfl rfl rfl rfl ?_
    refine Cx.oo rfl rfl rfl (fun _ => okp_indexSl rfl Tryz.underlying27 sz42 (vl rfl) (vl rfl) (by omega) (by omega)) ?_
    refine Cx.rd 0 rfl rfl rfl (by decide) (rd_loadA rfl agg42 sz42 (vl rfl) (cells_atG (f := rowF) (fun _ => rfl) (by omega)) rfl) ?_
    refine Cx.oo rfl rfl rfl (fun _ => okp_indexSl rfl Tryz.underlying27 sz42 (vl rfl) (vl rfl) (by omega) (by omega)) ?_
    refine Cx.ef0 0 rfl rfl (ef_store rfl rfl (vl rfl) (VL.le (vl rfl) (agg_cellsP _)) sz42 rfl (by rw [cells_len (sz := 11) (fun _ => rfl)]; first | omega | (simp only [List.length_set]; omega)) (cells_setG (f := rowF) (fun _ => rfl) (by first | omega | (simp only [List.length_set]; omega)))) ?_
    refine Cx.oo rfl rfl rfl (fun _ => okp_indexSl rfl Tryz.underlying27 sz42 (vl rfl) (vl rfl) (by omega) (by omega)) ?_
    refine Cx.ef0 0 rfl rfl (ef_store rfl rfl (vl rfl) (VL.le (vl rfl) (agg_cellsP _)) sz42 rfl (by rw [cells_len (sz := 11) (fun _ => rfl)]; first | omega | (simp only [List.length_set]; omega)) (cells_setG (f := rowF) (fun _ => rfl) (by first | omega | (simp only [List.length_set]; omega)))) ?_
    refine Cx.nil ⟨rfl, ?_⟩
    refine FinX.done (AllC.cons (AllC.cons (AllC.map _))) ?_
    refine Fin.block (Fin.go ?_)
    refine Tr.w6 0 1 2 3 8 9 rfl rfl rfl rfl rfl rfl ?_
    refine Tr.reg0 ?_
    refine Ch.mv rfl rfl rfl rfl rfl ?_
    first
     | (refine Ch.oo rfl rfl rfl (ok_sub rfl (vl rfl) (vl rfl) ?hin) ?_; case hin => unfold InI; omega)
     | refine Ch.oo rfl rfl rfl (ok_int rfl (vl rfl) (vl rfl) rfl) ?_
    refine Ch.as rfl rfl rfl rfl rfl ?_
    refine Ch.nil ?_
    exact Fin.famD2V0 (j - 1) (_)  (⟨⟨⟨by omega, by omega⟩, by simp only [List.length_set]; exact hsl2, by rw [ins_go h0 (by omega) rfl (by omega) (by omega) (by assumption)]; exact hso2⟩, by omega⟩) ⟨ke rfl, ke rfl, ke rfl, ke rfl, ke rfl, ke rfl, trivial⟩ (fun _ _ h => h)
   ·
    have := h3
    refine Tr.exit ?_
    refine Fin.then_exit ?_
    refine Fin.then_exit ?_
    refine Fin.block_here ?_
    refine Fin.block (Fin.go (Tr.reg0 ?_))
    refine Ch.mv rfl rfl rfl rfl rfl ?_
    first
     | (refine Ch.oo rfl rfl rfl (ok_add rfl (vl rfl) (vl rfl) ?hin) ?_; case hin => unfold InI; omega)
     | refine Ch.oo rfl rfl rfl (ok_int rfl (vl rfl) (vl rfl) rfl) ?_
    refine Ch.as rfl rfl rfl rfl rfl ?_
    refine Ch.nil ?_
    have hfin : st2.toArray = Go.Sort.insInner (ltc c) a.toNat j.toNat st2.toArray := by first | exact ins_stopA h0 (by omega) | exact ins_stopB h0 (by omega) rfl (by omega) (by omega) (Int.not_lt.2 (by assumption))
    exact Fin.famD2V0 (i + 1) (st2)  (⟨⟨by omega, hsl2, by rw [← hso, ← inso_go (by omega) hib, ← hso2]; exact congrArg _ hfin⟩, by omega⟩) ⟨ke rfl, ke rfl, ke rfl, ke rfl, ke rfl, trivial⟩ (fun _ _ h => h)
  ·
   iterate 12 refine Ch.nt h2 rfl rfl rfl rfl rfl ?_
   refine Ch.oo rfl rfl rfl (ok_pick_f rfl (vl rfl) h2 (vl rfl)) ?_
   refine Ch.nil (Fin.go ?_)
   refine Tr.w7 0 1 2 3 8 9 34 rfl rfl rfl rfl rfl rfl rfl ?_
   refine Tr.cond rfl (fun h => nomatch h) (fun _ => ?_)
   refine Tr.exit ?_
   refine Fin.then_exit ?_
   refine Fin.then_exit ?_
   refine Fin.block_here ?_
   refine Fin.block (Fin.go (Tr.reg0 ?_))
   refine Ch.mv rfl rfl rfl rfl rfl ?_
   first
    | (refine Ch.oo rfl rfl rfl (ok_add rfl (vl rfl) (vl rfl) ?hin) ?_; case hin => unfold InI; omega)
    | refine Ch.oo rfl rfl rfl (ok_int rfl (vl rfl) (vl rfl) rfl) ?_
   refine Ch.as rfl rfl rfl rfl rfl ?_
   refine Ch.nil ?_
   have hfin : st2.toArray = Go.Sort.insInner (ltc c) a.toNat j.toNat st2.toArray := by first | exact ins_stopA h0 (by omega) | exact ins_stopB h0 (by omega) rfl (by omega) (by omega) (Int.not_lt.2 (by assumption))
   exact Fin.famD2V0 (i + 1) (st2)  (⟨⟨by omega, hsl2, by rw [← hso, ← inso_go (by omega) hib, ← hso2]; exact congrArg _ hfin⟩, by omega⟩) ⟨ke rfl, ke rfl, ke rfl, ke rfl, ke rfl, trivial⟩ (fun _ _ h => h)
 ·
  have hib : ¬ i < b := of_decide_eq_false h1
  rw [inso_stop (by omega) hib] at hso
  refine Tr.exit ?_
  refine Fin.then_exit ?_
  refine Fin.then_exit ?_
  refine Fin.block_here ?_
  refine Fin.closeL (SortL c a b l) 0 rfl (by unfold SortL; rw [hso]; exact Go.Sort.insertionSort_holds hw l.toArray a.toNat b.toNat (by omega) (by simp only [List.size_toArray]; omega)) ?_
  exact Fin.retM0 rfl
set_option maxRecDepth 20000 in
theorem w_ssiftG {l : List Fnd} {c : Fnd × Fnd → Int} {b0 cap len : Nat} {sp : List Value} {lo hi first : Int} (hln : l.length = len) (hll : len ≤ 1000000) (h0 : 0 ≤ lo) (hlo : lo ≤ len) (hf : 0 ≤ first) (hb : first + hi ≤ len) : FunM Tryz.prog 160 [is (.slice (some ⟨b0, 0, none⟩) len cap), int lo, int hi, int first, clo Tryz.prog (fun x : Fnd × Fnd => [agg (rowF x.1), agg (rowF x.2)]) (fun x => int (c x))] (unit_) (cellsRes true b0 42 ((l.map rowF).flatten ++ sp.map is)) (fun _ => relRes b0 42 rowF (SiftL c hi first lo l) (sp.map is)) := by
 refine FunM.of Tryz.func160 rfl rfl (by exact Nat.le_of_ble_eq_true rfl) fun M0 w0 S rs M1 w1 => ?_
 refine Tr.seq (Tr.reg0 ?_)
 refine Ch.mv rfl rfl rfl rfl rfl ?_
 refine Ch.as rfl rfl rfl rfl rfl ?_
 refine Ch.nil (Fin.go (Tr.block ?_))
 refine Tr.loopD2V0 [(0, _), (2, _), (3, _), (4, _)] ⟨ke rfl, ke rfl, ke rfl, ke rfl, trivial⟩ (fun (r : Int) (st : List Fnd) => [(10, int r)]) (fun (r : Int) (st : List Fnd) => Hp M0 w0 S (cellsRes true b0 42 ((st.map rowF).flatten ++ sp.map is) :: extRes M1 w1 :: rs)) (fun (r : Int) (st : List Fnd) => (0 ≤ r ∧ r ≤ 1000000) ∧ st.length = len ∧ Go.Sort.siftDown (ltc c) hi.toNat first.toNat r.toNat st.toArray = Go.Sort.siftDown (ltc c) hi.toNat first.toNat lo.toNat l.toArray) (fun (r : Int) (st : List Fnd) => (hi - r).toNat) (lo) (l)  (⟨⟨by omega, by omega⟩, by omega, rfl⟩) ⟨ke rfl, trivial⟩ (fun _ _ h => h) ?_
 rintro r st  ⟨⟨h0r, hr2⟩, hsl, hso⟩
 refine Tr.block (Tr.seq (Tr.reg0 ?_))
 refine Ch.mv rfl rfl rfl rfl rfl ?_
 first
  | (refine Ch.oo rfl rfl rfl (ok_mul rfl (vl rfl) (vl rfl) ?hin) ?_; case hin => unfold InI; omega)
  | refine Ch.oo rfl rfl rfl (ok_int rfl (vl rfl) (vl rfl) rfl) ?_
 first
  | (refine Ch.oo rfl rfl rfl (ok_add rfl (vl rfl) (vl rfl) ?hin) ?_; case hin => unfold InI; omega)
  | refine Ch.oo rfl rfl rfl (ok_int rfl (vl rfl) (vl rfl) rfl) ?_
 refine Ch.as rfl rfl rfl rfl rfl ?_
 refine Ch.nil (Fin.go (Tr.seq (Tr.seq (Tr.reg0 ?_))))
 refine Ch.mv rfl rfl rfl rfl rfl ?_
 refine Ch.mv rfl rfl rfl rfl rfl ?_
 refine Ch.oo rfl rfl rfl (ok_int rfl (vl rfl) (vl rfl) rfl) ?_
 refine Ch.nil (Fin.go ?_)
 refine Tr.cn rfl (fun h1 q1 => ?_) (fun h1 q1 => ?_)
 ·
  refine Tr.exit ?_
  refine Fin.then_exit ?_
  refine Fin.block_on rfl ?_
  refine Fin.then_exit ?_
  refine Fin.block_here ?_
  refine Fin.closeL (SiftL c hi first lo l) 0 rfl (⟨by omega, by rw [← hso]; first | exact sift_end (by omega) (by omega) | exact sift_stopLa h0r hf (by omega) (by omega) (x := first + r) (y := first + (2 * r + 1)) rfl rfl (by omega) (by omega) (Int.not_lt.2 (by assumption)) | exact sift_stopLb h0r hf (by omega) (u := first + (2 * r + 1)) (v := first + (2 * r + 1) + 1) rfl rfl (by omega) (by omega) (Int.not_lt.2 (by assumption)) (x := first + r) (y := first + (2 * r + 1)) rfl rfl (by omega) (by omega) (Int.not_lt.2 (by assumption)) | exact sift_stopR h0r hf (by omega) (u := first + (2 * r + 1)) (v := first + (2 * r + 1) + 1) rfl rfl (by omega) (by omega) (by assumption) (x := first + r) (y := first + (2 * r + 1 + 1)) rfl rfl (by omega) (by omega) (Int.not_lt.2 (by assumption))⟩) ?_
  exact Fin.retM0 rfl
 ·
  refine Tr.skip (Fin.go (Tr.seq (Tr.seq ?_)))
  refine Tr.reg1 mixed (by kernel_rfl) ?_
  refine Ch.mv rfl rfl rfl rfl rfl ?_
  first
   | (refine Ch.oo rfl rfl rfl (ok_add rfl (vl rfl) (vl rfl) ?hin) ?_; case hin => unfold InI; omega)
   | refine Ch.oo rfl rfl rfl (ok_int rfl (vl rfl) (vl rfl) rfl) ?_
  refine Ch.mv rfl rfl rfl rfl rfl ?_
  refine Ch.oo rfl rfl rfl (ok_int rfl (vl rfl) (vl rfl) rfl) ?_
  refine Ch.mv rfl rfl rfl rfl rfl ?_
  refine Ch.cs 23 rfl (fun h2 q2 => ?_) (fun h2 q2 => ?_)
  ·
   iterate 4 refine Ch.ym h2 rfl rfl rfl rfl rfl rfl rfl ?_
   first
    | (refine Ch.y h2 rfl rfl rfl rfl rfl (ok_add rfl (vl rfl) (vl rfl) ?hin) ?_; case hin => unfold InI; omega)
    | refine Ch.y h2 rfl rfl rfl rfl rfl (ok_int rfl (vl rfl) (vl rfl) rfl) ?_
   refine Ch.y h2 rfl rfl rfl rfl rfl (okp_indexSl rfl Tryz.underlying27 sz42 (vl rfl) (vl rfl) (by omega) (by omega)) ?_
   refine Ch.y h2 rfl rfl rfl rfl rfl (ok_rd 0 rfl (rd_loadA rfl agg42 sz42 (vl rfl) (cells_atG (f := rowF) (fun _ => rfl) (by omega)) rfl)) ?_
   iterate 3 refine Ch.ym h2 rfl rfl rfl rfl rfl rfl rfl ?_
   first
    | (refine Ch.y h2 rfl rfl rfl rfl rfl (ok_add rfl (vl rfl) (vl rfl) ?hin) ?_; case hin => unfold InI; omega)
    | refine Ch.y h2 rfl rfl rfl rfl rfl (ok_int rfl (vl rfl) (vl rfl) rfl) ?_
   first
    | (refine Ch.y h2 rfl rfl rfl rfl rfl (ok_add rfl (vl rfl) (vl rfl) ?hin) ?_; case hin => unfold InI; omega)
    | refine Ch.y h2 rfl rfl rfl rfl rfl (ok_int rfl (vl rfl) (vl rfl) rfl) ?_
   refine Ch.y h2 rfl rfl rfl rfl rfl (okp_indexSl rfl Tryz.underlying27 sz42 (vl rfl) (vl rfl) (by omega) (by omega)) ?_
   refine Ch.y h2 rfl rfl rfl rfl rfl (ok_rd 0 rfl (rd_loadA rfl agg42 sz42 (vl rfl) (cells_atG (f := rowF) (fun _ => rfl) (by omega)) rfl)) ?_
   refine Ch.y h2 rfl rfl rfl rfl rfl (ok_callc (_, _) rfl (vl rfl) ⟨ke rfl, ke rfl, trivial⟩) ?_
   refine Ch.y h2 rfl rfl rfl rfl rfl (ok_int rfl (vl rfl) (vl rfl) rfl) ?_
   refine Ch.oo rfl rfl rfl (ok_pick_t rfl (vl rfl) h2 (vl rfl)) ?_
   refine Ch.nil (Fin.go ?_)
   refine Tr.w7 0 2 3 4 10 11 40 rfl rfl rfl rfl rfl rfl rfl ?_
   refine Tr.cn rfl (fun h3 q3 => ?_) (fun h3 q3 => ?_)
   ·
    refine Tr.reg0 ?_
    refine Ch.mv rfl rfl rfl rfl rfl ?_
    first
     | (refine Ch.oo rfl rfl rfl (ok_add rfl (vl rfl) (vl rfl) ?hin) ?_; case hin => unfold InI; omega)
     | refine Ch.oo rfl rfl rfl (ok_int rfl (vl rfl) (vl rfl) rfl) ?_
    refine Ch.as rfl rfl rfl rfl rfl ?_
    refine Ch.nil (Fin.go (Tr.seq (Tr.seq ?_)))
    refine Tr.reg1 mixed (by kernel_rfl) ?_
    iterate 4 refine Ch.mv rfl rfl rfl rfl rfl ?_
    first
     | (refine Ch.oo rfl rfl rfl (ok_add rfl (vl rfl) (vl rfl) ?hin) ?_; case hin => unfold InI; omega)
     | refine Ch.oo rfl rfl rfl (ok_int rfl (vl rfl) (vl rfl) rfl) ?_
    refine Ch.oo rfl rfl rfl (okp_indexSl rfl Tryz.underlying27 sz42 (vl rfl) (vl rfl) (by omega) (by omega)) ?_
    refine Ch.oo rfl rfl rfl (ok_rd 0 rfl (rd_loadA rfl agg42 sz42 (vl rfl) (cells_atG (f := rowF) (fun _ => rfl) (by omega)) rfl)) ?_
    iterate 3 refine Ch.mv rfl rfl rfl rfl rfl ?_
    first
     | (refine Ch.oo rfl rfl rfl (ok_add rfl (vl rfl) (vl rfl) ?hin) ?_; case hin => unfold InI; omega)
     | refine Ch.oo rfl rfl rfl (ok_int rfl (vl rfl) (vl rfl) rfl) ?_
    refine Ch.oo rfl rfl rfl (okp_indexSl rfl Tryz.underlying27 sz42 (vl rfl) (vl rfl) (by omega) (by omega)) ?_
    refine Ch.oo rfl rfl rfl (ok_rd 0 rfl (rd_loadA rfl agg42 sz42 (vl rfl) (cells_atG (f := rowF) (fun _ => rfl) (by omega)) rfl)) ?_
    refine Ch.oo rfl rfl rfl (ok_callc (_, _) rfl (vl rfl) ⟨ke rfl, ke rfl, trivial⟩) ?_
    refine Ch.oo rfl rfl rfl (ok_int rfl (vl rfl) (vl rfl) rfl) ?_
    refine Ch.oo rfl rfl rfl (ok_not rfl (vl rfl)) ?_
    refine Ch.nil (Fin.go ?_)
    refine Tr.w7 0 2 3 4 10 11 58 rfl rfl rfl rfl rfl rfl rfl ?_
    refine Tr.cn rfl (fun h4 q4 => ?_) (fun h4 q4 => ?_)
    ·
     refine Tr.ret ?_
     refine Fin.then_ret ?_
     refine Fin.block_ret ?_
     refine Fin.then_ret ?_
     refine Fin.block_ret ?_
     refine Fin.closeL (SiftL c hi first lo l) 0 rfl (⟨by omega, by rw [← hso]; first | exact sift_end (by omega) (by omega) | exact sift_stopLa h0r hf (by omega) (by omega) (x := first + r) (y := first + (2 * r + 1)) rfl rfl (by omega) (by omega) (Int.not_lt.2 (by assumption)) | exact sift_stopLb h0r hf (by omega) (u := first + (2 * r + 1)) (v := first + (2 * r + 1) + 1) rfl rfl (by omega) (by omega) (Int.not_lt.2 (by assumption)) (x := first + r) (y := first + (2 * r + 1)) rfl rfl (by omega) (by omega) (Int.not_lt.2 (by assumption)) | exact sift_stopR h0r hf (by omega) (u := first + (2 * r + 1)) (v := first + (2 * r + 1) + 1) rfl rfl (by omega) (by omega) (by assumption) (x := first + r) (y := first + (2 * r + 1 + 1)) rfl rfl (by omega) (by omega) (Int.not_lt.2 (by assumption))⟩) ?_
     exact Fin.retM0r rfl
    ·
     refine Tr.skip (Fin.go (Tr.seq ?_))
     refine Tr.regX mixed [none, none, none, none, none, none, none, none, none, none, none, none, none, some (0, 0, false, 0), none, none, none, none, none, some (0, 0, false, 0), none, some (0, 0, true, 0), none, some (0, 0, true, 0)] (by kernel_rfl) ?_
     iterate 3 refine Cx.mv rfl rfl rfl rfl rfl ?_
     first
      | (refine Cx.oo rfl rfl rfl (fun _ => ok_add rfl (vl rfl) (vl rfl) ?hin) ?_; case hin => unfold InI; omega)
      | refine Cx.oo rfl rfl rfl (fun _ => ok_int rfl (vl rfl) (vl rfl) rfl) ?_
     iterate 3 refine Cx.mv rfl rfl rfl rfl rfl ?_
     first
      | (refine Cx.oo rfl rfl rfl (fun _ => ok_add rfl (vl rfl) (vl rfl) ?hin) ?_; case hin => unfold InI; omega)
      | refine Cx.oo rfl rfl rfl (fun _ => ok_int rfl (vl rfl) (vl rfl) rfl) ?_
     iterate 3 refine Cx.mv rfl rfl rfl rfl rfl ?_
     first
      | (refine Cx.oo rfl rfl rfl (fun _ => ok_add rfl (vl rfl) (vl rfl) ?hin) ?_; case hin => unfold InI; omega)
      | refine Cx.oo rfl rfl rfl (fun _ => ok_int rfl (vl rfl) (vl rfl) rfl) ?_
     refine Cx.oo rfl rfl rfl (fun _ => okp_indexSl rfl Tryz.underlying27 sz42 (vl rfl) (vl rfl) (by omega) (by omega)) ?_
     refine Cx.rd 0 rfl rfl rfl (by decide) (rd_loadA rfl agg42 sz42 (vl rfl) (cells_atG (f := rowF) (fun _ => rfl) (by omega)) rfl) ?_
     iterate 3 refine Cx.mv rfl rfl rfl rfl rfl ?_
     first
      | (refine Cx.oo rfl rfl rfl (fun _ => ok_add rfl (vl rfl) (vl rfl) ?hin) ?_; case hin => unfold InI; omega)
      | refine Cx.oo rfl rfl rfl (fun _ => ok_int rfl (vl rfl) (vl rfl) rfl) ?_
     refine Cx.oo rfl rfl rfl (fun _ => okp_indexSl rfl Tryz.underlying27 sz42 (vl rfl) (vl rfl) (by omega) (by omega)) ?_
     refine Cx.rd 0 rfl rfl rfl (by decide) (rd_loadA rfl agg42 sz42 (vl rfl) (cells_atG (f := rowF) (fun _ => rfl) (by omega)) rfl) ?_
     refine Cx.oo rfl rfl rfl (fun _ => okp_indexSl rfl Tryz.underlying27 sz42 (vl rfl) (vl rfl) (by omega) (by omega)) ?_
     refine Cx.ef0 0 rfl rfl (ef_store rfl rfl (vl rfl) (VL.le (vl rfl) (agg_cellsP _)) sz42 rfl (by rw [cells_len (sz := 11) (fun _ => rfl)]; first | omega | (simp only [List.length_set]; omega)) (cells_setG (f := rowF) (fun _ => rfl) (by first | omega | (simp only [List.length_set]; omega)))) ?_
     refine Cx.oo rfl rfl rfl (fun _ => okp_indexSl rfl Tryz.underlying27 sz42 (vl rfl) (vl rfl) (by omega) (by omega)) ?_
     refine Cx.ef0 0 rfl rfl (ef_store rfl rfl (vl rfl) (VL.le (vl rfl) (agg_cellsP _)) sz42 rfl (by rw [cells_len (sz := 11) (fun _ => rfl)]; first | omega | (simp only [List.length_set]; omega)) (cells_setG (f := rowF) (fun _ => rfl) (by first | omega | (simp only [List.length_set]; omega)))) ?_
     refine Cx.nil ⟨rfl, ?_⟩
     refine FinX.done (AllC.cons (AllC.cons (AllC.map _))) ?_
     refine Fin.go ?_
     refine Tr.w5 0 2 3 4 11 rfl rfl rfl rfl rfl ?_
     refine Tr.reg0 ?_
     refine Ch.mv rfl rfl rfl rfl rfl ?_
     refine Ch.as rfl rfl rfl rfl rfl ?_
     refine Ch.nil (Fin.block ?_)
     exact Fin.famD2V0 (2 * r + 1 + 1) (_)  (⟨⟨⟨by omega, by omega⟩, by simp only [List.length_set]; exact hsl, by rw [← hso]; first | exact sift_goLa h0r hf (by omega) (by omega) (by omega) (by omega) (by omega) (by omega) (by assumption) | exact sift_goLb h0r hf (by omega) (u := first + (2 * r + 1)) (v := first + (2 * r + 1) + 1) rfl rfl (by omega) (by omega) (Int.not_lt.2 (by assumption)) (by omega) (by omega) (by omega) (by omega) (by assumption) | exact sift_goR h0r hf (by omega) (u := first + (2 * r + 1)) (v := first + (2 * r + 1) + 1) rfl rfl (by omega) (by omega) (by assumption) (by omega) (by omega) (by omega) (by omega) (by assumption)⟩, by omega⟩) ⟨ke rfl, ke rfl, ke rfl, ke rfl, ke rfl, trivial⟩ (fun _ _ h => h)
   ·
    refine Tr.skip (Fin.go (Tr.seq (Tr.seq ?_)))
    refine Tr.reg1 mixed (by kernel_rfl) ?_
    iterate 4 refine Ch.mv rfl rfl rfl rfl rfl ?_
    first
     | (refine Ch.oo rfl rfl rfl (ok_add rfl (vl rfl) (vl rfl) ?hin) ?_; case hin => unfold InI; omega)
     | refine Ch.oo rfl rfl rfl (ok_int rfl (vl rfl) (vl rfl) rfl) ?_
    refine Ch.oo rfl rfl rfl (okp_indexSl rfl Tryz.underlying27 sz42 (vl rfl) (vl rfl) (by omega) (by omega)) ?_
    refine Ch.oo rfl rfl rfl (ok_rd 0 rfl (rd_loadA rfl agg42 sz42 (vl rfl) (cells_atG (f := rowF) (fun _ => rfl) (by omega)) rfl)) ?_
    iterate 3 refine Ch.mv rfl rfl rfl rfl rfl ?_
    first
     | (refine Ch.oo rfl rfl rfl (ok_add rfl (vl rfl) (vl rfl) ?hin) ?_; case hin => unfold InI; omega)
     | refine Ch.oo rfl rfl rfl (ok_int rfl (vl rfl) (vl rfl) rfl) ?_
    refine Ch.oo rfl rfl rfl (okp_indexSl rfl Tryz.underlying27 sz42 (vl rfl) (vl rfl) (by omega) (by omega)) ?_
    refine Ch.oo rfl rfl rfl (ok_rd 0 rfl (rd_loadA rfl agg42 sz42 (vl rfl) (cells_atG (f := rowF) (fun _ => rfl) (by omega)) rfl)) ?_
    refine Ch.oo rfl rfl rfl (ok_callc (_, _) rfl (vl rfl) ⟨ke rfl, ke rfl, trivial⟩) ?_
    refine Ch.oo rfl rfl rfl (ok_int rfl (vl rfl) (vl rfl) rfl) ?_
    refine Ch.oo rfl rfl rfl (ok_not rfl (vl rfl)) ?_
    refine Ch.nil (Fin.go ?_)
    refine Tr.w7 0 2 3 4 10 11 58 rfl rfl rfl rfl rfl rfl rfl ?_
    refine Tr.cn rfl (fun h5 q5 => ?_) (fun h5 q5 => ?_)
    ·
     refine Tr.ret ?_
     refine Fin.then_ret ?_
     refine Fin.block_ret ?_
     refine Fin.then_ret ?_
     refine Fin.block_ret ?_
     refine Fin.closeL (SiftL c hi first lo l) 0 rfl (⟨by omega, by rw [← hso]; first | exact sift_end (by omega) (by omega) | exact sift_stopLa h0r hf (by omega) (by omega) (x := first + r) (y := first + (2 * r + 1)) rfl rfl (by omega) (by omega) (Int.not_lt.2 (by assumption)) | exact sift_stopLb h0r hf (by omega) (u := first + (2 * r + 1)) (v := first + (2 * r + 1) + 1) rfl rfl (by omega) (by omega) (Int.not_lt.2 (by assumption)) (x := first + r) (y := first + (2 * r + 1)) rfl rfl (by omega) (by omega) (Int.not_lt.2 (by assumption)) | exact sift_stopR h0r hf (by omega) (u := first + (2 * r + 1)) (v := first + (2 * r + 1) + 1) rfl rfl (by omega) (by omega) (by assumption) (x := first + r) (y := first + (2 * r + 1 + 1)) rfl rfl (by omega) (by omega) (Int.not_lt.2 (by assumption))⟩) ?_
     exact Fin.retM0r rfl
    ·
     refine Tr.skip (Fin.go (Tr.seq ?_))
     refine Tr.regX mixed [none, none, none, none, none, none, none, none, none, none, none, none, none, some (0, 0, false, 0), none, none, none, none, none, some (0, 0, false, 0), none, some (0, 0, true, 0), none, some (0, 0, true, 0)] (by kernel_rfl) ?_
     iterate 3 refine Cx.mv rfl rfl rfl rfl rfl ?_
     first
      | (refine Cx.oo rfl rfl rfl (fun _ => ok_add rfl (vl rfl) (vl rfl) ?hin) ?_; case hin => unfold InI; omega)
      | refine Cx.oo rfl rfl rfl (fun _ => ok_int rfl (vl rfl) (vl rfl) rfl) ?_
     iterate 3 refine Cx.mv rfl rfl rfl rfl rfl ?_
     first
      | (refine Cx.oo rfl rfl rfl (fun _ => ok_add rfl (vl rfl) (vl rfl) ?hin) ?_; case hin => unfold InI; omega)
      | refine Cx.oo rfl rfl rfl (fun _ => ok_int rfl (vl rfl) (vl rfl) rfl) ?_
     iterate 3 refine Cx.mv rfl rfl rfl rfl rfl ?_
     first
      | (refine Cx.oo rfl rfl rfl (fun _ => ok_add rfl (vl rfl) (vl rfl) ?hin) ?_; case hin => unfold InI; omega)
      | refine Cx.oo rfl rfl rfl (fun _ => ok_int rfl (vl rfl) (vl rfl) rfl) ?_
     refine Cx.oo rfl rfl rfl (fun _ => okp_indexSl rfl Tryz.underlying27 sz42 (vl rfl) (vl rfl) (by omega) (by omega)) ?_
     refine Cx.rd 0 rfl rfl rfl (by decide) (rd_loadA rfl agg42 sz42 (vl rfl) (cells_atG (f := rowF) (fun _ => rfl) (by omega)) rfl) ?_
     iterate 3 refine Cx.mv rfl rfl rfl rfl rfl ?_
     first
      | (refine Cx.oo rfl rfl rfl (fun _ => ok_add rfl (vl rfl) (vl rfl) ?hin) ?_; case hin => unfold InI; omega)
      | refine Cx.oo rfl rfl rfl (fun _ => ok_int rfl (vl rfl) (vl rfl) rfl) ?_
     refine Cx.oo rfl rfl rfl (fun _ => okp_indexSl rfl Tryz.underlying27 sz42 (vl rfl) (vl rfl) (by omega) (by omega)) ?_
     refine Cx.rd 0 rfl rfl rfl (by decide) (rd_loadA rfl agg42 sz42 (vl rfl) (cells_atG (f := rowF) (fun _ => rfl) (by omega)) rfl) ?_
     refine Cx.oo rfl rfl rfl (fun _ => okp_indexSl rfl Tryz.underlying27 sz42 (vl rfl) (vl rfl) (by omega) (by omega)) ?_
     refine Cx.ef0 0 rfl rfl (ef_store rfl rfl (vl rfl) (VL.le (vl rfl) (agg_cellsP _)) sz42 rfl (by rw [cells_len (sz := 11) (fun _ => rfl)]; first | omega | (simp only [List.length_set]; omega)) (cells_setG (f := rowF) (fun _ => rfl) (by first | omega | (simp only [List.length_set]; omega)))) ?_
     refine Cx.oo rfl rfl rfl (fun _ => okp_indexSl rfl Tryz.underlying27 sz42 (vl rfl) (vl rfl) (by omega) (by omega)) ?_
     refine Cx.ef0 0 rfl rfl (ef_store rfl rfl (vl rfl) (VL.le (vl rfl) (agg_cellsP _)) sz42 rfl (by rw [cells_len (sz := 11) (fun _ => rfl)]; first | omega | (simp only [List.length_set]; omega)) (cells_setG (f := rowF) (fun _ => rfl) (by first | omega | (simp only [List.length_set]; omega)))) ?_
     refine Cx.nil ⟨rfl, ?_⟩
     refine FinX.done (AllC.cons (AllC.cons (AllC.map _))) ?_
     refine Fin.go ?_
     refine Tr.w5 0 2 3 4 11 rfl rfl rfl rfl rfl ?_
     refine Tr.reg0 ?_
     refine Ch.mv rfl rfl rfl rfl rfl ?_
     refine Ch.as rfl rfl rfl rfl rfl ?_
     refine Ch.nil (Fin.block ?_)
     exact Fin.famD2V0 (2 * r + 1) (_)  (⟨⟨⟨by omega, by omega⟩, by simp only [List.length_set]; exact hsl, by rw [← hso]; first | exact sift_goLa h0r hf (by omega) (by omega) (by omega) (by omega) (by omega) (by omega) (by assumption) | exact sift_goLb h0r hf (by omega) (u := first + (2 * r + 1)) (v := first + (2 * r + 1) + 1) rfl rfl (by omega) (by omega) (Int.not_lt.2 (by assumption)) (by omega) (by omega) (by omega) (by omega) (by assumption) | exact sift_goR h0r hf (by omega) (u := first + (2 * r + 1)) (v := first + (2 * r + 1) + 1) rfl rfl (by omega) (by omega) (by assumption) (by omega) (by omega) (by omega) (by omega) (by assumption)⟩, by omega⟩) ⟨ke rfl, ke rfl, ke rfl, ke rfl, ke rfl, trivial⟩ (fun _ _ h => h)
  ·
   iterate 16 refine Ch.nt h2 rfl rfl rfl rfl rfl ?_
   refine Ch.oo rfl rfl rfl (ok_pick_f rfl (vl rfl) h2 (vl rfl)) ?_
   refine Ch.nil (Fin.go ?_)
   refine Tr.w7 0 2 3 4 10 11 40 rfl rfl rfl rfl rfl rfl rfl ?_
   refine Tr.cond rfl (fun h => nomatch h) (fun _ => ?_)
   refine Tr.skip (Fin.go (Tr.seq (Tr.seq ?_)))
   refine Tr.reg1 mixed (by kernel_rfl) ?_
   iterate 4 refine Ch.mv rfl rfl rfl rfl rfl ?_
   first
    | (refine Ch.oo rfl rfl rfl (ok_add rfl (vl rfl) (vl rfl) ?hin) ?_; case hin => unfold InI; omega)
    | refine Ch.oo rfl rfl rfl (ok_int rfl (vl rfl) (vl rfl) rfl) ?_
   refine Ch.oo rfl rfl rfl (okp_indexSl rfl Tryz.underlying27 sz42 (vl rfl) (vl rfl) (by omega) (by omega)) ?_
   refine Ch.oo rfl rfl rfl (ok_rd 0 rfl (rd_loadA rfl agg42 sz42 (vl rfl) (cells_atG (f := rowF) (fun _ => rfl) (by omega)) rfl)) ?_
   iterate 3 refine Ch.mv rfl rfl rfl rfl rfl ?_
   first
    | (refine Ch.oo rfl rfl rfl (ok_add rfl (vl rfl) (vl rfl) ?hin) ?_; case hin => unfold InI; omega)
    | refine Ch.oo rfl rfl rfl (ok_int rfl (vl rfl) (vl rfl) rfl) ?_
   refine Ch.oo rfl rfl rfl (okp_indexSl rfl Tryz.underlying27 sz42 (vl rfl) (vl rfl) (by omega) (by omega)) ?_
   refine Ch.oo rfl rfl rfl (ok_rd 0 rfl (rd_loadA rfl agg42 sz42 (vl rfl) (cells_atG (f := rowF) (fun _ => rfl) (by omega)) rfl)) ?_
   refine Ch.oo rfl rfl rfl (ok_callc (_, _) rfl (vl rfl) ⟨ke rfl, ke rfl, trivial⟩) ?_
   refine Ch.oo rfl rfl rfl (ok_int rfl (vl rfl) (vl rfl) rfl) ?_
   refine Ch.oo rfl rfl rfl (ok_not rfl (vl rfl)) ?_
   refine Ch.nil (Fin.go ?_)
   refine Tr.w7 0 2 3 4 10 11 58 rfl rfl rfl rfl rfl rfl rfl ?_
   refine Tr.cn rfl (fun h6 q6 => ?_) (fun h6 q6 => ?_)
   ·
    refine Tr.ret ?_
    refine Fin.then_ret ?_
    refine Fin.block_ret ?_
    refine Fin.then_ret ?_
    refine Fin.block_ret ?_
    refine Fin.closeL (SiftL c hi first lo l) 0 rfl (⟨by omega, by rw [← hso]; first | exact sift_end (by omega) (by omega) | exact sift_stopLa h0r hf (by omega) (by omega) (x := first + r) (y := first + (2 * r + 1)) rfl rfl (by omega) (by omega) (Int.not_lt.2 (by assumption)) | exact sift_stopLb h0r hf (by omega) (u := first + (2 * r + 1)) (v := first + (2 * r + 1) + 1) rfl rfl (by omega) (by omega) (Int.not_lt.2 (by assumption)) (x := first + r) (y := first + (2 * r + 1)) rfl rfl (by omega) (by omega) (Int.not_lt.2 (by assumption)) | exact sift_stopR h0r hf (by omega) (u := first + (2 * r + 1)) (v := first + (2 * r + 1) + 1) rfl rfl (by omega) (by omega) (by assumption) (x := first + r) (y := first + (2 * r + 1 + 1)) rfl rfl (by omega) (by omega) (Int.not_lt.2 (by assumption))⟩) ?_
    exact Fin.retM0r rfl
   ·
    refine Tr.skip (Fin.go (Tr.seq ?_))
    refine Tr.regX mixed [none, none, none, none, none, none, none, none, none, none, none, none, none, some (0, 0, false, 0), none, none, none, none, none, some (0, 0, false, 0), none, some (0, 0, true, 0), none, some (0, 0, true, 0)] (by kernel_rfl) ?_
    iterate 3 refine Cx.mv rfl rfl rfl rfl rfl ?_
    first
     | (refine Cx.oo rfl rfl rfl (fun _ => ok_add rfl (vl rfl) (vl rfl) ?hin) ?_; case hin => unfold InI; omega)
     | refine Cx.oo rfl rfl rfl (fun _ => ok_int rfl (vl rfl) (vl rfl) rfl) ?_
    iterate 3 refine Cx.mv rfl rfl rfl rfl rfl ?_
    first
     | (refine Cx.oo rfl rfl rfl (fun _ => ok_add rfl (vl rfl) (vl rfl) ?hin) ?_; case hin => unfold InI; omega)
     | refine Cx.oo rfl rfl rfl (fun _ => ok_int rfl (vl rfl) (vl rfl) rfl) ?_
    iterate 3 refine Cx.mv rfl rfl rfl rfl rfl ?_
    first
     | (refine Cx.oo rfl rfl rfl (fun _ => ok_add rfl (vl rfl) (vl rfl) ?hin) ?_; case hin => unfold InI; omega)
     | refine Cx.oo rfl rfl rfl (fun _ => ok_int rfl (vl rfl) (vl rfl) rfl) ?_
    refine Cx.oo rfl rfl rfl (fun _ => okp_indexSl rfl Tryz.underlying27 sz42 (vl rfl) (vl rfl) (by omega) (by omega)) ?_
    refine Cx.rd 0 rfl rfl rfl (by decide) (rd_loadA rfl agg42 sz42 (vl rfl) (cells_atG (f := rowF) (fun _ => rfl) (by omega)) rfl) ?_
    iterate 3 refine Cx.mv rfl rfl rfl rfl rfl ?_
    first
     | (refine Cx.oo rfl rfl rfl (fun _ => ok_add rfl (vl rfl) (vl rfl) ?hin) ?_; case hin => unfold InI; omega)
     | refine Cx.oo rfl rfl rfl (fun _ => ok_int rfl (vl rfl) (vl rfl) rfl) ?_
    refine Cx.oo rfl rfl rfl (fun _ => okp_indexSl rfl Tryz.underlying27 sz42 (vl rfl) (vl rfl) (by omega) (by omega)) ?_
    refine Cx.rd 0 rfl rfl rfl (by decide) (rd_loadA rfl agg42 sz42 (vl rfl) (cells_atG (f := rowF) (fun _ => rfl) (by omega)) rfl) ?_
    refine Cx.oo rfl rfl rfl (fun _ => okp_indexSl rfl Tryz.underlying27 sz42 (vl rfl) (vl rfl) (by omega) (by omega)) ?_
    refine Cx.ef0 0 rfl rfl (ef_store rfl rfl (vl rfl) (VL.le (vl rfl) (agg_cellsP _)) sz42 rfl (by rw [cells_len (sz := 11) (fun _ => rfl)]; first | omega | (simp only [List.length_set]; omega)) (cells_setG (f := rowF) (fun _ => rfl) (by first | omega | (simp only [List.length_set]; omega)))) ?_
    refine Cx.oo rfl rfl rfl (fun _ => okp_indexSl rfl Tryz.underlying27 sz42 (vl rfl) (vl rfl) (by omega) (by omega)) ?_
    refine Cx.ef0 0 rfl rfl (ef_store rfl rfl (vl rfl) (VL.le (vl rfl) (agg_cellsP _)) sz42 rfl (by rw [cells_len (sz := 11) (fun _ => rfl)]; first | omega | (simp only [List.length_set]; omega)) (cells_setG (f := rowF) (fun _ => rfl) (by first | omega | (simp only [List.length_set]; omega)))) ?_
    refine Cx.nil ⟨rfl, ?_⟩
    refine FinX.done (AllC.cons (AllC.cons (AllC.map _))) ?_
    refine Fin.go ?_
    refine Tr.w5 0 2 3 4 11 rfl rfl rfl rfl rfl ?_
    refine Tr.reg0 ?_
    refine Ch.mv rfl rfl rfl rfl rfl ?_
    refine Ch.as rfl rfl rfl rfl rfl ?_
    refine Ch.nil (Fin.block ?_)
    exact Fin.famD2V0 (2 * r + 1) (_)  (⟨⟨⟨by omega, by omega⟩, by simp only [List.length_set]; exact hsl, by rw [← hso]; first | exact sift_goLa h0r hf (by omega) (by omega) (by omega) (by omega) (by omega) (by omega) (by assumption) | exact sift_goLb h0r hf (by omega) (u := first + (2 * r + 1)) (v := first + (2 * r + 1) + 1) rfl rfl (by omega) (by omega) (Int.not_lt.2 (by assumption)) (by omega) (by omega) (by omega) (by omega) (by assumption) | exact sift_goR h0r hf (by omega) (u := first + (2 * r + 1)) (v := first + (2 * r + 1) + 1) rfl rfl (by omega) (by omega) (by assumption) (by omega) (by omega) (by omega) (by omega) (by assumption)⟩, by omega⟩) ⟨ke rfl, ke rfl, ke rfl, ke rfl, ke rfl, trivial⟩ (fun _ _ h => h)
set_option maxRecDepth 20000 in
theorem w_sheapG {l : List Fnd} {c : Fnd × Fnd → Int} {b0 cap len : Nat} {sp : List Value} {a b : Int} (hln : l.length = len) (hll : len ≤ 1000000) (hw : Go.Sort.SWO (ltc c)) (h0 : 0 ≤ a) (hab : a ≤ b) (hb : b ≤ len) : FunM Tryz.prog 143 [is (.slice (some ⟨b0, 0, none⟩) len cap), int a, int b, clo Tryz.prog (fun x : Fnd × Fnd => [agg (rowF x.1), agg (rowF x.2)]) (fun x => int (c x))] (unit_) (cellsRes true b0 42 ((l.map rowF).flatten ++ sp.map is)) (fun _ => relRes b0 42 rowF (SortL c a b l) (sp.map is)) := by
 refine FunM.of Tryz.func143 rfl rfl (by exact Nat.le_of_ble_eq_true rfl) fun M0 w0 S rs M1 w1 => ?_
 have hq : IntKind.i64.wrap ((b - a - 1).tdiv 2) = (((b.toNat - a.toNat - 1) / 2 : Nat) : Int) := heap_half (by omega) (by omega) (by omega)
 refine Tr.seq (Tr.reg0 ?_)
 refine Ch.mv rfl rfl rfl rfl rfl ?_
 refine Ch.as rfl rfl rfl rfl rfl ?_
 refine Ch.nil (Fin.go (Tr.seq (Tr.reg0 ?_)))
 refine Ch.as rfl rfl rfl rfl rfl ?_
 refine Ch.nil (Fin.go (Tr.seq (Tr.reg0 ?_)))
 refine Ch.mv rfl rfl rfl rfl rfl ?_
 refine Ch.mv rfl rfl rfl rfl rfl ?_
 first
  | (refine Ch.oo rfl rfl rfl (ok_sub rfl (vl rfl) (vl rfl) ?hin) ?_; case hin => unfold InI; omega)
  | refine Ch.oo rfl rfl rfl (ok_int rfl (vl rfl) (vl rfl) rfl) ?_
 refine Ch.as rfl rfl rfl rfl rfl ?_
 refine Ch.nil (Fin.go (Tr.seq (Tr.seq (Tr.reg0 ?_))))
 refine Ch.mv rfl rfl rfl rfl rfl ?_
 first
  | (refine Ch.oo rfl rfl rfl (ok_sub rfl (vl rfl) (vl rfl) ?hin) ?_; case hin => unfold InI; omega)
  | refine Ch.oo rfl rfl rfl (ok_int rfl (vl rfl) (vl rfl) rfl) ?_
 refine Ch.oo rfl rfl rfl (ok_quo rfl (vl rfl) (vl rfl) (by omega)) ?_
 refine Ch.as rfl rfl rfl rfl rfl ?_
 refine Ch.nil (Fin.go (Tr.block ?_))
 refine Tr.loopD2V0 [(0, _), (3, _), (8, _), (9, _), (10, _)] ⟨ke rfl, ke rfl, ke rfl, ke rfl, ke rfl, trivial⟩ (fun (i : Int) (st : List Fnd) => [(11, int i)]) (fun (i : Int) (st : List Fnd) => Hp M0 w0 S (cellsRes true b0 42 ((st.map rowF).flatten ++ sp.map is) :: extRes M1 w1 :: rs)) (fun (i : Int) (st : List Fnd) => (-1 ≤ i ∧ i ≤ b - a) ∧ st.length = len ∧ Go.Sort.heapBuild (ltc c) (b - a).toNat a.toNat (i + 1).toNat st.toArray = Go.Sort.heapBuild (ltc c) (b - a).toNat a.toNat ((b.toNat - a.toNat - 1) / 2 + 1) l.toArray) (fun (i : Int) (st : List Fnd) => (i + 1).toNat) ((((b.toNat - a.toNat - 1) / 2 : Nat) : Int)) (l)  (⟨⟨by omega, by omega⟩, by omega, by rw [show ((((b.toNat - a.toNat - 1) / 2 : Nat) : Int) + 1).toNat = (b.toNat - a.toNat - 1) / 2 + 1 by omega]⟩) ⟨⟨_, rfl, int_eq hq⟩, trivial⟩ (fun _ _ h => h) ?_
 rintro i st  ⟨⟨hi1, hi2⟩, hsl, hso⟩
 refine Tr.seq (Tr.seq (Tr.reg0 ?_))
 refine Ch.mv rfl rfl rfl rfl rfl ?_
 refine Ch.oo rfl rfl rfl (ok_int rfl (vl rfl) (vl rfl) rfl) ?_
 refine Ch.nil (Fin.go ?_)
 refine Tr.cn rfl (fun h1 q1 => ?_) (fun h1 q1 => ?_)
 ·
  have hib : 0 ≤ i := of_decide_eq_true h1
  refine Tr.skip (Fin.go (Tr.seq (Tr.block (Tr.regT ?_))))
  iterate 5 refine TO.mv rfl rfl rfl rfl rfl ?_
  refine TO.efc 0 rfl rfl (by decide) (ef_callc rfl rfl (by decide) rfl (w_ssiftG (by first | omega | (simp only [List.length_set]; omega)) (by omega) (by omega) (by omega) (by omega) (by omega)) ⟨ke rfl, ke rfl, ke rfl, ke rfl, ke rfl, trivial⟩) ?_
  refine TO.openL 0 rfl fun t1 hp1 => ?_
  have hpl1 := hp1.len
  refine TO.nil (Fin.block (Fin.go ?_))
  refine Tr.w6 0 3 8 9 10 11 rfl rfl rfl rfl rfl rfl ?_
  refine Tr.reg0 ?_
  refine Ch.mv rfl rfl rfl rfl rfl ?_
  first
   | (refine Ch.oo rfl rfl rfl (ok_sub rfl (vl rfl) (vl rfl) ?hin) ?_; case hin => unfold InI; omega)
   | refine Ch.oo rfl rfl rfl (ok_int rfl (vl rfl) (vl rfl) rfl) ?_
  refine Ch.as rfl rfl rfl rfl rfl ?_
  refine Ch.nil ?_
  exact Fin.famD2V0 (i - 1) (t1)  (⟨⟨⟨by omega, by omega⟩, by omega, by rw [hp1.2]; exact (build_go hib).trans hso⟩, by omega⟩) ⟨ke rfl, ke rfl, ke rfl, ke rfl, ke rfl, ke rfl, trivial⟩ (fun _ _ h => h)
 ·
  have hib : ¬ 0 ≤ i := of_decide_eq_false h1
  rw [build_end hib] at hso
  refine Tr.exit ?_
  refine Fin.then_exit ?_
  refine Fin.then_exit ?_
  refine Fin.block_here ?_
  refine Fin.go (Tr.seq (Tr.reg0 ?_))
  refine Ch.mv rfl rfl rfl rfl rfl ?_
  first
   | (refine Ch.oo rfl rfl rfl (ok_sub rfl (vl rfl) (vl rfl) ?hin) ?_; case hin => unfold InI; omega)
   | refine Ch.oo rfl rfl rfl (ok_int rfl (vl rfl) (vl rfl) rfl) ?_
  refine Ch.as rfl rfl rfl rfl rfl ?_
  refine Ch.nil (Fin.go (Tr.block ?_))
  refine Tr.loopD2V0 [(0, _), (3, _), (8, _), (9, _)] ⟨ke rfl, ke rfl, ke rfl, ke rfl, trivial⟩ (fun (i2 : Int) (st2 : List Fnd) => [(12, int i2)]) (fun (i2 : Int) (st2 : List Fnd) => Hp M0 w0 S (cellsRes true b0 42 ((st2.map rowF).flatten ++ sp.map is) :: extRes M1 w1 :: rs)) (fun (i2 : Int) (st2 : List Fnd) => (-1 ≤ i2 ∧ i2 < b - a) ∧ st2.length = len ∧ Go.Sort.heapPop (ltc c) a.toNat (i2 + 1).toNat st2.toArray = Go.Sort.heapPop (ltc c) a.toNat (b - a).toNat st.toArray) (fun (i2 : Int) (st2 : List Fnd) => (i2 + 1).toNat) (b - a - 1) (st)  (⟨⟨by omega, by omega⟩, by omega, by rw [show (b - a - 1 + 1).toNat = (b - a).toNat by omega]⟩) ⟨ke rfl, trivial⟩ (fun _ _ h => h) ?_
  rintro i2 st2  ⟨⟨hj1, hj2⟩, hsl2, hso2⟩
  refine Tr.seq (Tr.seq (Tr.reg0 ?_))
  refine Ch.mv rfl rfl rfl rfl rfl ?_
  refine Ch.oo rfl rfl rfl (ok_int rfl (vl rfl) (vl rfl) rfl) ?_
  refine Ch.nil (Fin.go ?_)
  refine Tr.cn rfl (fun h2 q2 => ?_) (fun h2 q2 => ?_)
  ·
   have hib2 : 0 ≤ i2 := of_decide_eq_true h2
   refine Tr.skip (Fin.go (Tr.seq (Tr.block (Tr.seq ?_))))
   refine Tr.regX mixed [none, none, none, none, none, none, none, none, none, none, none, some (0, 0, false, 0), none, none, none, some (0, 0, false, 0), none, some (0, 0, true, 0), none, some (0, 0, true, 0)] (by kernel_rfl) ?_
   iterate 5 refine Cx.mv rfl rfl rfl rfl rfl ?_
   first
    | (refine Cx.oo rfl rfl rfl (fun _ => ok_add rfl (vl rfl) (vl rfl) ?hin) ?_; case hin => unfold InI; omega)
    | refine Cx.oo rfl rfl rfl (fun _ => ok_int rfl (vl rfl) (vl rfl) rfl) ?_
   iterate 3 refine Cx.mv rfl rfl rfl rfl rfl ?_
   first
    | (refine Cx.oo rfl rfl rfl (fun _ => ok_add rfl (vl rfl) (vl rfl) ?hin) ?_; case hin => unfold InI; omega)
    | refine Cx.oo rfl rfl rfl (fun _ => ok_int rfl (vl rfl) (vl rfl) rfl) ?_
   refine Cx.oo rfl rfl rfl (fun _ => okp_indexSl rfl Tryz.underlying27 sz42 (vl rfl) (vl rfl) (by omega) (by omega)) ?_
   refine Cx.rd 0 rfl rfl rfl (by decide) (rd_loadA rfl agg42 sz42 (vl rfl) (cells_atG (f := rowF) (fun _ => rfl) (by omega)) rfl) ?_
   refine Cx.mv rfl rfl rfl rfl rfl ?_
   refine Cx.mv rfl rfl rfl rfl rfl ?_
   refine Cx.oo rfl rfl rfl (fun _ => okp_indexSl rfl Tryz.underlying27 sz42 (vl rfl) (vl rfl) (by omega) (by omega)) ?_
   refine Cx.rd 0 rfl rfl rfl (by decide) (rd_loadA rfl agg42 sz42 (vl rfl) (cells_atG (f := rowF) (fun _ => rfl) (by omega)) rfl) ?_
   refine Cx.oo rfl rfl rfl (fun _ => okp_indexSl rfl Tryz.underlying27 sz42 (vl rfl) (vl rfl) (by omega) (by omega)) ?_
   refine Cx.ef0 0 rfl rfl (ef_store rfl rfl (vl rfl) (VL.le (vl rfl) (agg_cellsP _)) sz42 rfl (by rw [cells_len (sz := 11) (fun _ => rfl)]; first | omega | (simp only [List.length_set]; omega)) (cells_setG (f := rowF) (fun _ => rfl) (by first | omega | (simp only [List.length_set]; omega)))) ?_
   refine Cx.oo rfl rfl rfl (fun _ => okp_indexSl rfl Tryz.underlying27 sz42 (vl rfl) (vl rfl) (by omega) (by omega)) ?_
   refine Cx.ef0 0 rfl rfl (ef_store rfl rfl (vl rfl) (VL.le (vl rfl) (agg_cellsP _)) sz42 rfl (by rw [cells_len (sz := 11) (fun _ => rfl)]; first | omega | (simp only [List.length_set]; omega)) (cells_setG (f := rowF) (fun _ => rfl) (by first | omega | (simp only [List.length_set]; omega)))) ?_
   refine Cx.nil ⟨rfl, ?_⟩
   refine FinX.done (AllC.cons (AllC.cons (AllC.map _))) ?_
   refine Fin.go ?_
   refine Tr.w5 0 3 8 9 12 rfl rfl rfl rfl rfl ?_
   refine Tr.regT ?_
   iterate 5 refine TO.mv rfl rfl rfl rfl rfl ?_
   refine TO.efc 0 rfl rfl (by decide) (ef_callc rfl rfl (by decide) rfl (w_ssiftG (by first | omega | (simp only [List.length_set]; omega)) (by omega) (by omega) (by omega) (by omega) (by omega)) ⟨ke rfl, ke rfl, ke rfl, ke rfl, ke rfl, trivial⟩) ?_
   refine TO.openL 0 rfl fun t2 hp2 => ?_
   have hpl2 := hp2.len
   refine TO.nil (Fin.block (Fin.go (Tr.reg0 ?_)))
   refine Ch.mv rfl rfl rfl rfl rfl ?_
   first
    | (refine Ch.oo rfl rfl rfl (ok_sub rfl (vl rfl) (vl rfl) ?hin) ?_; case hin => unfold InI; omega)
    | refine Ch.oo rfl rfl rfl (ok_int rfl (vl rfl) (vl rfl) rfl) ?_
   refine Ch.as rfl rfl rfl rfl rfl ?_
   refine Ch.nil ?_
   exact Fin.famD2V0 (i2 - 1) (t2)  (⟨⟨⟨by omega, by omega⟩, by simp only [List.length_set] at hpl2; omega, by rw [hp2.2, sw (by omega) (by omega), show (a + i2).toNat = a.toNat + i2.toNat by omega]; exact (pop_go hib2).trans hso2⟩, by omega⟩) ⟨ke rfl, ke rfl, ke rfl, ke rfl, ke rfl, trivial⟩ (fun _ _ h => h)
  ·
   have hib2 : ¬ 0 ≤ i2 := of_decide_eq_false h2
   rw [pop_end hib2] at hso2
   refine Tr.exit ?_
   refine Fin.then_exit ?_
   refine Fin.then_exit ?_
   refine Fin.block_here ?_
   refine Fin.closeL (SortL c a b l) 0 rfl (by unfold SortL; rw [hso2, hso]; exact heap_holds hw l.toArray h0 hab (by simp only [List.size_toArray]; omega)) ?_
   exact Fin.retM0 rfl
set_option maxRecDepth 20000 in
theorem w_srevG {l : List Fnd} {c : Fnd × Fnd → Int} {b0 cap len : Nat} {sp : List Value} {a b : Int} (hln : l.length = len) (hll : len ≤ 1000000) (h0 : 0 ≤ a) (hab : a < b) (hb : b ≤ len) : FunM Tryz.prog 146 [is (.slice (some ⟨b0, 0, none⟩) len cap), int a, int b, clo Tryz.prog (fun x : Fnd × Fnd => [agg (rowF x.1), agg (rowF x.2)]) (fun x => int (c x))] (unit_) (cellsRes true b0 42 ((l.map rowF).flatten ++ sp.map is)) (fun _ => relRes b0 42 rowF (PermL a b l) (sp.map is)) := by
 refine FunM.of Tryz.func146 rfl rfl (by exact Nat.le_of_ble_eq_true rfl) fun M0 w0 S rs M1 w1 => ?_
 refine Tr.seq (Tr.reg0 ?_)
 refine Ch.mv rfl rfl rfl rfl rfl ?_
 refine Ch.as rfl rfl rfl rfl rfl ?_
 refine Ch.nil (Fin.go (Tr.seq (Tr.reg0 ?_)))
 refine Ch.mv rfl rfl rfl rfl rfl ?_
 first
  | (refine Ch.oo rfl rfl rfl (ok_sub rfl (vl rfl) (vl rfl) ?hin) ?_; case hin => unfold InI; omega)
  | refine Ch.oo rfl rfl rfl (ok_int rfl (vl rfl) (vl rfl) rfl) ?_
 refine Ch.as rfl rfl rfl rfl rfl ?_
 refine Ch.nil (Fin.go (Tr.block ?_))
 refine Tr.loopD3V0 [(0, _)] ⟨ke rfl, trivial⟩ (fun (i : Int) (j : Int) (st : List Fnd) => [(8, int i), (9, int j)]) (fun (i : Int) (j : Int) (st : List Fnd) => Hp M0 w0 S (cellsRes true b0 42 ((st.map rowF).flatten ++ sp.map is) :: extRes M1 w1 :: rs)) (fun (i : Int) (j : Int) (st : List Fnd) => (a ≤ i ∧ j < b ∧ -1 ≤ j ∧ i ≤ b) ∧ st.length = len ∧ PermL a b l st) (fun (i : Int) (j : Int) (st : List Fnd) => (j - i).toNat) (a) (b - 1) (l)  (⟨⟨by omega, by omega, by omega, by omega⟩, by omega, PermL.refl _ _ _⟩) ⟨ke rfl, ke rfl, trivial⟩ (fun _ _ h => h) ?_
 rintro i j st  ⟨⟨hi1, hi2, hi3, hi4⟩, hsl, hso⟩
 refine Tr.seq (Tr.seq (Tr.reg0 ?_))
 refine Ch.mv rfl rfl rfl rfl rfl ?_
 refine Ch.mv rfl rfl rfl rfl rfl ?_
 refine Ch.oo rfl rfl rfl (ok_int rfl (vl rfl) (vl rfl) rfl) ?_
 refine Ch.nil (Fin.go ?_)
 refine Tr.cn rfl (fun h1 q1 => ?_) (fun h1 q1 => ?_)
 ·
  have hij : i < j := of_decide_eq_true h1
  refine Tr.skip (Fin.go (Tr.block (Tr.seq ?_)))
  refine Tr.regX mixed [none, none, none, none, none, none, none, some (0, 0, false, 0), none, none, none, some (0, 0, false, 0), none, some (0, 0, true, 0), none, some (0, 0, true, 0)] (by kernel_rfl) ?_
  iterate 6 refine Cx.mv rfl rfl rfl rfl rfl ?_
  refine Cx.oo rfl rfl rfl (fun _ => okp_indexSl rfl Tryz.underlying27 sz42 (vl rfl) (vl rfl) (by omega) (by omega)) ?_
  refine Cx.rd 0 rfl rfl rfl (by decide) (rd_loadA rfl agg42 sz42 (vl rfl) (cells_atG (f := rowF) (fun _ => rfl) (by omega)) rfl) ?_
  refine Cx.mv rfl rfl rfl rfl rfl ?_
  refine Cx.mv rfl rfl rfl rfl rfl ?_
  refine Cx.oo rfl rfl rfl (fun _ => okp_indexSl rfl Tryz.underlying27 sz42 (vl rfl) (vl rfl) (by omega) (by omega)) ?_
  refine Cx.rd 0 rfl rfl rfl (by decide) (rd_loadA rfl agg42 sz42 (vl rfl) (cells_atG (f := rowF) (fun _ => rfl) (by omega)) rfl) ?_
  refine Cx.oo rfl rfl rfl (fun _ => okp_indexSl rfl Tryz.underlying27 sz42 (vl rfl) (vl rfl) (by omega) (by omega)) ?_
  refine Cx.ef0 0 rfl rfl (ef_store rfl rfl (vl rfl) (VL.le (vl rfl) (agg_cellsP _)) sz42 rfl (by rw [cells_len (sz := 11) (fun _ => rfl)]; first | omega | (simp only [List.length_set]; omega)) (cells_setG (f := rowF) (fun _ => rfl) (by first | omega | (simp only [List.length_set]; omega)))) ?_
  refine Cx.oo rfl rfl rfl (fun _ => okp_indexSl rfl Tryz.underlying27 sz42 (vl rfl) (vl rfl) (by omega) (by omega)) ?_
  refine Cx.ef0 0 rfl rfl (ef_store rfl rfl (vl rfl) (VL.le (vl rfl) (agg_cellsP _)) sz42 rfl (by rw [cells_len (sz := 11) (fun _ => rfl)]; first | omega | (simp only [List.length_set]; omega)) (cells_setG (f := rowF) (fun _ => rfl) (by first | omega | (simp only [List.length_set]; omega)))) ?_
  refine Cx.nil ⟨rfl, ?_⟩
  refine FinX.done (AllC.cons (AllC.cons (AllC.map _))) ?_
  refine Fin.go ?_
  refine Tr.w3 0 8 9 rfl rfl rfl ?_
  refine Tr.seq (Tr.reg0 ?_)
  refine Ch.mv rfl rfl rfl rfl rfl ?_
  first
   | (refine Ch.oo rfl rfl rfl (ok_add rfl (vl rfl) (vl rfl) ?hin) ?_; case hin => unfold InI; omega)
   | refine Ch.oo rfl rfl rfl (ok_int rfl (vl rfl) (vl rfl) rfl) ?_
  refine Ch.as rfl rfl rfl rfl rfl ?_
  refine Ch.nil (Fin.go (Tr.reg0 ?_))
  refine Ch.mv rfl rfl rfl rfl rfl ?_
  first
   | (refine Ch.oo rfl rfl rfl (ok_sub rfl (vl rfl) (vl rfl) ?hin) ?_; case hin => unfold InI; omega)
   | refine Ch.oo rfl rfl rfl (ok_int rfl (vl rfl) (vl rfl) rfl) ?_
  refine Ch.as rfl rfl rfl rfl rfl ?_
  refine Ch.nil (Fin.block ?_)
  exact Fin.famD3V0 (i + 1) (j - 1) (_)  (⟨⟨⟨by omega, by omega, by omega, by omega⟩, by simp only [List.length_set]; exact hsl, hso.swap (by omega) (by omega) (by omega) (by omega) (by omega) (by omega) (by omega)⟩, by omega⟩) ⟨ke rfl, ke rfl, ke rfl, trivial⟩ (fun _ _ h => h)
 ·
  have := h1
  refine Tr.exit ?_
  refine Fin.then_exit ?_
  refine Fin.then_exit ?_
  refine Fin.block_here ?_
  refine Fin.closeL (PermL a b l) 0 rfl (hso) ?_
  exact Fin.retM0 rfl
set_option maxRecDepth 20000 in
theorem w_speqG {l : List Fnd} {c : Fnd × Fnd → Int} {b0 cap len : Nat} {sp : List Value} {a b pv : Int} (hln : l.length = len) (hll : len ≤ 1000000) (h0 : 0 ≤ a) (hab : a < b) (hb : b ≤ len) (hp1 : a ≤ pv) (hp2 : pv < b) : FunM Tryz.prog 148 [is (.slice (some ⟨b0, 0, none⟩) len cap), int a, int b, int pv, clo Tryz.prog (fun x : Fnd × Fnd => [agg (rowF x.1), agg (rowF x.2)]) (fun x => int (c x))] (int ((PE c a b pv l).1 : Nat)) (cellsRes true b0 42 ((l.map rowF).flatten ++ sp.map is)) (fun _ => relRes b0 42 rowF (PartE c a b pv l) (sp.map is)) := by
 refine FunM.of Tryz.func148 rfl rfl (by exact Nat.le_of_ble_eq_true rfl) fun M0 w0 S rs M1 w1 => ?_
 have hal : a.toNat < l.length := by omega
 have hpv : pv.toNat < l.length := by omega
 refine Tr.seq (Tr.reg0 ?_)
 refine Ch.as rfl rfl rfl rfl rfl ?_
 refine Ch.nil (Fin.go (Tr.seq ?_))
 refine Tr.regX mixed [none, none, none, none, none, none, none, some (0, 0, false, 0), none, none, none, some (0, 0, false, 0), none, some (0, 0, true, 0), none, some (0, 0, true, 0)] (by kernel_rfl) ?_
 iterate 6 refine Cx.mv rfl rfl rfl rfl rfl ?_
 refine Cx.oo rfl rfl rfl (fun _ => okp_indexSl rfl Tryz.underlying27 sz42 (vl rfl) (vl rfl) (by omega) (by omega)) ?_
 refine Cx.rd 0 rfl rfl rfl (by decide) (rd_loadA rfl agg42 sz42 (vl rfl) (cells_atG (f := rowF) (fun _ => rfl) (by omega)) rfl) ?_
 refine Cx.mv rfl rfl rfl rfl rfl ?_
 refine Cx.mv rfl rfl rfl rfl rfl ?_
 refine Cx.oo rfl rfl rfl (fun _ => okp_indexSl rfl Tryz.underlying27 sz42 (vl rfl) (vl rfl) (by omega) (by omega)) ?_
 refine Cx.rd 0 rfl rfl rfl (by decide) (rd_loadA rfl agg42 sz42 (vl rfl) (cells_atG (f := rowF) (fun _ => rfl) (by omega)) rfl) ?_
 refine Cx.oo rfl rfl rfl (fun _ => okp_indexSl rfl Tryz.underlying27 sz42 (vl rfl) (vl rfl) (by omega) (by omega)) ?_
 refine Cx.ef0 0 rfl rfl (ef_store rfl rfl (vl rfl) (VL.le (vl rfl) (agg_cellsP _)) sz42 rfl (by rw [cells_len (sz := 11) (fun _ => rfl)]; first | omega | (simp only [List.length_set]; omega)) (cells_setG (f := rowF) (fun _ => rfl) (by first | omega | (simp only [List.length_set]; omega)))) ?_
 refine Cx.oo rfl rfl rfl (fun _ => okp_indexSl rfl Tryz.underlying27 sz42 (vl rfl) (vl rfl) (by omega) (by omega)) ?_
 refine Cx.ef0 0 rfl rfl (ef_store rfl rfl (vl rfl) (VL.le (vl rfl) (agg_cellsP _)) sz42 rfl (by rw [cells_len (sz := 11) (fun _ => rfl)]; first | omega | (simp only [List.length_set]; omega)) (cells_setG (f := rowF) (fun _ => rfl) (by first | omega | (simp only [List.length_set]; omega)))) ?_
 refine Cx.nil ⟨rfl, ?_⟩
 refine FinX.done (AllC.cons (AllC.cons (AllC.map _))) ?_
 refine Fin.go ?_
 refine Tr.w4 0 1 2 4 rfl rfl rfl rfl ?_
 refine Tr.seq (Tr.reg0 ?_)
 refine Ch.mv rfl rfl rfl rfl rfl ?_
 first
  | (refine Ch.oo rfl rfl rfl (ok_add rfl (vl rfl) (vl rfl) ?hin) ?_; case hin => unfold InI; omega)
  | refine Ch.oo rfl rfl rfl (ok_int rfl (vl rfl) (vl rfl) rfl) ?_
 refine Ch.mv rfl rfl rfl rfl rfl ?_
 first
  | (refine Ch.oo rfl rfl rfl (ok_sub rfl (vl rfl) (vl rfl) ?hin) ?_; case hin => unfold InI; omega)
  | refine Ch.oo rfl rfl rfl (ok_int rfl (vl rfl) (vl rfl) rfl) ?_
 refine Ch.as rfl rfl rfl rfl rfl ?_
 refine Ch.as rfl rfl rfl rfl rfl ?_
 refine Ch.nil (Fin.go (Tr.seq (Tr.block ?_)))
 refine Tr.loopD3V0 [(0, _), (1, _), (4, _)] ⟨ke rfl, ke rfl, ke rfl, trivial⟩ (fun (i : Int) (j : Int) (st : List Fnd) => [(11, int i), (12, int j)]) (fun (i : Int) (j : Int) (st : List Fnd) => Hp M0 w0 S (cellsRes true b0 42 ((st.map rowF).flatten ++ sp.map is) :: extRes M1 w1 :: rs)) (fun (i : Int) (j : Int) (st : List Fnd) => ((a < i ∧ i ≤ b) ∧ a ≤ j ∧ j < b) ∧ st.length = len ∧ PLe c a i j st.toArray = PE c a b pv l) (fun (i : Int) (j : Int) (st : List Fnd) => (j - i + 2).toNat) (a + 1) (b - 1) (((l.set a.toNat (l[pv.toNat]'hpv)).set pv.toNat (l[a.toNat]'hal)))  (⟨⟨⟨by omega, by omega⟩, by omega, by omega⟩, by simp only [List.length_set]; exact hln, pe_start h0 hab hal hpv⟩) ⟨ke rfl, ke rfl, trivial⟩ (fun _ _ h => h) ?_
 rintro i j st  ⟨⟨⟨hi1, hi2⟩, hj1, hj2⟩, hsl, hso⟩
 refine Tr.block ?_
 refine Tr.w5 0 1 4 11 12 rfl rfl rfl rfl rfl ?_
 refine Tr.cutk [0, 1, 4, 12] [(11, ex fun y : Int => fact ((i ≤ y ∧ y ≤ b) ∧ True ∧ y.toNat = Go.Sort.scanUp (qU c st.toArray a) st.toArray (j).toNat (i).toNat) (int y))] (True) ?_ (fun h1 => ?_)
 ·
  refine Tr.block ?_
  refine Tr.loopw [(0, _), (1, _), (4, _), (12, _)] ⟨ke rfl, ke rfl, ke rfl, ke rfl, trivial⟩ (fun y : Int => [(11, int y)]) (fun y : Int => (i ≤ y ∧ y ≤ b) ∧ Go.Sort.scanUp (qU c st.toArray a) st.toArray (j).toNat (y).toNat = Go.Sort.scanUp (qU c st.toArray a) st.toArray (j).toNat (i).toNat) (fun y : Int => (b - y).toNat) i (⟨⟨by omega, by omega⟩, rfl⟩) ⟨ke rfl, trivial⟩ ?_
  rintro y ⟨⟨hscAa, hscAb⟩, hscAc⟩
  refine Tr.seq (Tr.seq ?_)
  refine Tr.reg1 mixed (by kernel_rfl) ?_
  refine Ch.mv rfl rfl rfl rfl rfl ?_
  refine Ch.mv rfl rfl rfl rfl rfl ?_
  refine Ch.oo rfl rfl rfl (ok_int rfl (vl rfl) (vl rfl) rfl) ?_
  refine Ch.mv rfl rfl rfl rfl rfl ?_
  refine Ch.cs 34 rfl (fun h2 q2 => ?_) (fun h2 q2 => ?_)
  ·
   iterate 3 refine Ch.ym h2 rfl rfl rfl rfl rfl rfl rfl ?_
   refine Ch.y h2 rfl rfl rfl rfl rfl (okp_indexSl rfl Tryz.underlying27 sz42 (vl rfl) (vl rfl) (by omega) (by omega)) ?_
   refine Ch.y h2 rfl rfl rfl rfl rfl (ok_rd 0 rfl (rd_loadA rfl agg42 sz42 (vl rfl) (cells_atG (f := rowF) (fun _ => rfl) (by omega)) rfl)) ?_
   refine Ch.ym h2 rfl rfl rfl rfl rfl rfl rfl ?_
   refine Ch.ym h2 rfl rfl rfl rfl rfl rfl rfl ?_
   refine Ch.y h2 rfl rfl rfl rfl rfl (okp_indexSl rfl Tryz.underlying27 sz42 (vl rfl) (vl rfl) (by omega) (by omega)) ?_
   refine Ch.y h2 rfl rfl rfl rfl rfl (ok_rd 0 rfl (rd_loadA rfl agg42 sz42 (vl rfl) (cells_atG (f := rowF) (fun _ => rfl) (by omega)) rfl)) ?_
   refine Ch.y h2 rfl rfl rfl rfl rfl (ok_callc (_, _) rfl (vl rfl) ⟨ke rfl, ke rfl, trivial⟩) ?_
   refine Ch.y h2 rfl rfl rfl rfl rfl (ok_int rfl (vl rfl) (vl rfl) rfl) ?_
   refine Ch.y h2 rfl rfl rfl rfl rfl (ok_not rfl (vl rfl)) ?_
   refine Ch.oo rfl rfl rfl (ok_pick_t rfl (vl rfl) h2 (vl rfl)) ?_
   refine Ch.nil (Fin.go ?_)
   refine Tr.w6 0 1 4 11 12 47 rfl rfl rfl rfl rfl rfl ?_
   refine Tr.cn rfl (fun h3 q3 => ?_) (fun h3 q3 => ?_)
   ·
    have := h3
    refine Tr.skip (Fin.go (Tr.block (Tr.reg0 ?_)))
    refine Ch.mv rfl rfl rfl rfl rfl ?_
    first
     | (refine Ch.oo rfl rfl rfl (ok_add rfl (vl rfl) (vl rfl) ?hin) ?_; case hin => unfold InI; omega)
     | refine Ch.oo rfl rfl rfl (ok_int rfl (vl rfl) (vl rfl) rfl) ?_
    refine Ch.as rfl rfl rfl rfl rfl ?_
    refine Ch.nil (Fin.block ?_)
    exact Fin.fam_same (y + 1) ⟨⟨⟨by omega, by omega⟩, by rw [su_go (by omega) (by omega) (by omega) (qU_t (by omega) (by omega) (Int.not_lt.2 (by assumption)))]; exact hscAc⟩, by omega⟩ ⟨ke rfl, ke rfl, ke rfl, ke rfl, ke rfl, trivial⟩
   ·
    have := h3
    refine Tr.exit ?_
    refine Fin.then_exit ?_
    refine Fin.then_exit ?_
    refine Fin.block_here ?_
    exact Fin.fam_same () trivial ⟨⟨_, rfl, ex_in _ (fact_in ⟨⟨by omega, by omega⟩, trivial, by rw [← hscAc]; first | exact (su_stopA (by omega) (by omega)).symm | exact (su_stopB (by omega) (qU_f (by omega) (by omega) (by assumption))).symm⟩ (Pr.le_refl _))⟩, ke rfl, ke rfl, ke rfl, ke rfl, trivial⟩
  ·
   iterate 12 refine Ch.nt h2 rfl rfl rfl rfl rfl ?_
   refine Ch.oo rfl rfl rfl (ok_pick_f rfl (vl rfl) h2 (vl rfl)) ?_
   refine Ch.nil (Fin.go ?_)
   refine Tr.w6 0 1 4 11 12 47 rfl rfl rfl rfl rfl rfl ?_
   refine Tr.cond rfl (fun h => nomatch h) (fun _ => ?_)
   refine Tr.exit ?_
   refine Fin.then_exit ?_
   refine Fin.then_exit ?_
   refine Fin.block_here ?_
   exact Fin.fam_same () trivial ⟨⟨_, rfl, ex_in _ (fact_in ⟨⟨by omega, by omega⟩, trivial, by rw [← hscAc]; first | exact (su_stopA (by omega) (by omega)).symm | exact (su_stopB (by omega) (qU_f (by omega) (by omega) (by assumption))).symm⟩ (Pr.le_refl _))⟩, ke rfl, ke rfl, ke rfl, ke rfl, trivial⟩
 ·
  refine Tr.ex 11 rfl (fun i2 => Tr.fact 11 rfl fun hci2 => ?_)
  obtain ⟨hci2a, hci2b, hci2c⟩ := hci2
  refine Tr.w5 0 1 4 11 12 rfl rfl rfl rfl rfl ?_
  refine Tr.cutk [0, 1, 4, 11] [(12, ex fun y : Int => fact ((a ≤ y ∧ y ≤ j) ∧ True ∧ y.toNat = Go.Sort.scanDown (qD c st.toArray a) st.toArray (i2).toNat (j).toNat) (int y))] (True) ?_ (fun h4 => ?_)
  ·
   refine Tr.block ?_
   refine Tr.loopw [(0, _), (1, _), (4, _), (11, _)] ⟨ke rfl, ke rfl, ke rfl, ke rfl, trivial⟩ (fun y : Int => [(12, int y)]) (fun y : Int => (a ≤ y ∧ y ≤ j) ∧ Go.Sort.scanDown (qD c st.toArray a) st.toArray (i2).toNat (y).toNat = Go.Sort.scanDown (qD c st.toArray a) st.toArray (i2).toNat (j).toNat) (fun y : Int => (y - a).toNat) j (⟨⟨by omega, by omega⟩, rfl⟩) ⟨ke rfl, trivial⟩ ?_
   rintro y ⟨⟨hscBa, hscBb⟩, hscBc⟩
   refine Tr.seq (Tr.seq ?_)
   refine Tr.reg1 mixed (by kernel_rfl) ?_
   refine Ch.mv rfl rfl rfl rfl rfl ?_
   refine Ch.mv rfl rfl rfl rfl rfl ?_
   refine Ch.oo rfl rfl rfl (ok_int rfl (vl rfl) (vl rfl) rfl) ?_
   refine Ch.mv rfl rfl rfl rfl rfl ?_
   refine Ch.cs 53 rfl (fun h5 q5 => ?_) (fun h5 q5 => ?_)
   ·
    iterate 3 refine Ch.ym h5 rfl rfl rfl rfl rfl rfl rfl ?_
    refine Ch.y h5 rfl rfl rfl rfl rfl (okp_indexSl rfl Tryz.underlying27 sz42 (vl rfl) (vl rfl) (by omega) (by omega)) ?_
    refine Ch.y h5 rfl rfl rfl rfl rfl (ok_rd 0 rfl (rd_loadA rfl agg42 sz42 (vl rfl) (cells_atG (f := rowF) (fun _ => rfl) (by omega)) rfl)) ?_
    refine Ch.ym h5 rfl rfl rfl rfl rfl rfl rfl ?_
    refine Ch.ym h5 rfl rfl rfl rfl rfl rfl rfl ?_
    refine Ch.y h5 rfl rfl rfl rfl rfl (okp_indexSl rfl Tryz.underlying27 sz42 (vl rfl) (vl rfl) (by omega) (by omega)) ?_
    refine Ch.y h5 rfl rfl rfl rfl rfl (ok_rd 0 rfl (rd_loadA rfl agg42 sz42 (vl rfl) (cells_atG (f := rowF) (fun _ => rfl) (by omega)) rfl)) ?_
    refine Ch.y h5 rfl rfl rfl rfl rfl (ok_callc (_, _) rfl (vl rfl) ⟨ke rfl, ke rfl, trivial⟩) ?_
    refine Ch.y h5 rfl rfl rfl rfl rfl (ok_int rfl (vl rfl) (vl rfl) rfl) ?_
    refine Ch.oo rfl rfl rfl (ok_pick_t rfl (vl rfl) h5 (vl rfl)) ?_
    refine Ch.nil (Fin.go ?_)
    refine Tr.w6 0 1 4 11 12 65 rfl rfl rfl rfl rfl rfl ?_
    refine Tr.cn rfl (fun h6 q6 => ?_) (fun h6 q6 => ?_)
    ·
     have := h6
     refine Tr.skip (Fin.go (Tr.block (Tr.reg0 ?_)))
     refine Ch.mv rfl rfl rfl rfl rfl ?_
     first
      | (refine Ch.oo rfl rfl rfl (ok_sub rfl (vl rfl) (vl rfl) ?hin) ?_; case hin => unfold InI; omega)
      | refine Ch.oo rfl rfl rfl (ok_int rfl (vl rfl) (vl rfl) rfl) ?_
     refine Ch.as rfl rfl rfl rfl rfl ?_
     refine Ch.nil (Fin.block ?_)
     exact Fin.fam_same (y - 1) ⟨⟨⟨by omega, by omega⟩, by rw [sd_go (by omega) (by omega) (by omega) (qD_t (by omega) (by omega) (by assumption))]; exact hscBc⟩, by omega⟩ ⟨ke rfl, ke rfl, ke rfl, ke rfl, ke rfl, trivial⟩
    ·
     have := h6
     refine Tr.exit ?_
     refine Fin.then_exit ?_
     refine Fin.then_exit ?_
     refine Fin.block_here ?_
     exact Fin.fam_same () trivial ⟨⟨_, rfl, ex_in _ (fact_in ⟨⟨by omega, by omega⟩, trivial, by rw [← hscBc]; first | exact (sd_stopA (by omega) (by omega)).symm | exact (sd_stopB (by omega) (qD_f (by omega) (by omega) (Int.not_lt.2 (by assumption)))).symm⟩ (Pr.le_refl _))⟩, ke rfl, ke rfl, ke rfl, ke rfl, trivial⟩
   ·
    iterate 11 refine Ch.nt h5 rfl rfl rfl rfl rfl ?_
    refine Ch.oo rfl rfl rfl (ok_pick_f rfl (vl rfl) h5 (vl rfl)) ?_
    refine Ch.nil (Fin.go ?_)
    refine Tr.w6 0 1 4 11 12 65 rfl rfl rfl rfl rfl rfl ?_
    refine Tr.cond rfl (fun h => nomatch h) (fun _ => ?_)
    refine Tr.exit ?_
    refine Fin.then_exit ?_
    refine Fin.then_exit ?_
    refine Fin.block_here ?_
    exact Fin.fam_same () trivial ⟨⟨_, rfl, ex_in _ (fact_in ⟨⟨by omega, by omega⟩, trivial, by rw [← hscBc]; first | exact (sd_stopA (by omega) (by omega)).symm | exact (sd_stopB (by omega) (qD_f (by omega) (by omega) (Int.not_lt.2 (by assumption)))).symm⟩ (Pr.le_refl _))⟩, ke rfl, ke rfl, ke rfl, ke rfl, trivial⟩
  ·
   refine Tr.ex 12 rfl (fun j2 => Tr.fact 12 rfl fun hcj2 => ?_)
   obtain ⟨hcj2a, hcj2b, hcj2c⟩ := hcj2
   refine Tr.seq (Tr.seq (Tr.reg0 ?_))
   refine Ch.mv rfl rfl rfl rfl rfl ?_
   refine Ch.mv rfl rfl rfl rfl rfl ?_
   refine Ch.oo rfl rfl rfl (ok_int rfl (vl rfl) (vl rfl) rfl) ?_
   refine Ch.nil (Fin.go ?_)
   refine Tr.cn rfl (fun h7 q7 => ?_) (fun h7 q7 => ?_)
   ·
    refine Tr.exit ?_
    refine Fin.then_exit ?_
    refine Fin.block_on rfl ?_
    refine Fin.then_exit ?_
    refine Fin.block_here ?_
    refine Fin.go (Tr.seq (Tr.reg0 ?_))
    refine Ch.mv rfl rfl rfl rfl rfl ?_
    refine Ch.as rfl rfl rfl rfl rfl ?_
    refine Ch.nil (Fin.go (Tr.ret ?_))
    refine Fin.closeL (PartE c a b pv l) 0 rfl (⟨by omega, by rw [hso.symm.trans (peq_stop hci2c hcj2c (by omega) (by omega))]⟩) ?_
    have hE := hso.symm.trans (peq_stop hci2c hcj2c (by omega) (by omega))
    refine Fin.retM1 rfl rfl ?_ (fun _ _ _ _ => rfl)
    · exact int_eq (by rw [hE]; show i2 = ((i2.toNat : Nat) : Int); omega)
   ·
    refine Tr.skip (Fin.go (Tr.seq ?_))
    refine Tr.regX mixed [none, none, none, none, none, none, none, some (0, 0, false, 0), none, none, none, some (0, 0, false, 0), none, some (0, 0, true, 0), none, some (0, 0, true, 0)] (by kernel_rfl) ?_
    iterate 6 refine Cx.mv rfl rfl rfl rfl rfl ?_
    refine Cx.oo rfl rfl rfl (fun _ => okp_indexSl rfl Tryz.underlying27 sz42 (vl rfl) (vl rfl) (by omega) (by omega)) ?_
    refine Cx.rd 0 rfl rfl rfl (by decide) (rd_loadA rfl agg42 sz42 (vl rfl) (cells_atG (f := rowF) (fun _ => rfl) (by omega)) rfl) ?_
    refine Cx.mv rfl rfl rfl rfl rfl ?_
    refine Cx.mv rfl rfl rfl rfl rfl ?_
    refine Cx.oo rfl rfl rfl (fun _ => okp_indexSl rfl Tryz.underlying27 sz42 (vl rfl) (vl rfl) (by omega) (by omega)) ?_
    refine Cx.rd 0 rfl rfl rfl (by decide) (rd_loadA rfl agg42 sz42 (vl rfl) (cells_atG (f := rowF) (fun _ => rfl) (by omega)) rfl) ?_
    refine Cx.oo rfl rfl rfl (fun _ => okp_indexSl rfl Tryz.underlying27 sz42 (vl rfl) (vl rfl) (by omega) (by omega)) ?_
    refine Cx.ef0 0 rfl rfl (ef_store rfl rfl (vl rfl) (VL.le (vl rfl) (agg_cellsP _)) sz42 rfl (by rw [cells_len (sz := 11) (fun _ => rfl)]; first | omega | (simp only [List.length_set]; omega)) (cells_setG (f := rowF) (fun _ => rfl) (by first | omega | (simp only [List.length_set]; omega)))) ?_
    refine Cx.oo rfl rfl rfl (fun _ => okp_indexSl rfl Tryz.underlying27 sz42 (vl rfl) (vl rfl) (by omega) (by omega)) ?_
    refine Cx.ef0 0 rfl rfl (ef_store rfl rfl (vl rfl) (VL.le (vl rfl) (agg_cellsP _)) sz42 rfl (by rw [cells_len (sz := 11) (fun _ => rfl)]; first | omega | (simp only [List.length_set]; omega)) (cells_setG (f := rowF) (fun _ => rfl) (by first | omega | (simp only [List.length_set]; omega)))) ?_
    refine Cx.nil ⟨rfl, ?_⟩
    refine FinX.done (AllC.cons (AllC.cons (AllC.map _))) ?_
    refine Fin.go ?_
    refine Tr.w5 0 1 4 11 12 rfl rfl rfl rfl rfl ?_
    refine Tr.seq (Tr.reg0 ?_)
    refine Ch.mv rfl rfl rfl rfl rfl ?_
    first
     | (refine Ch.oo rfl rfl rfl (ok_add rfl (vl rfl) (vl rfl) ?hin) ?_; case hin => unfold InI; omega)
     | refine Ch.oo rfl rfl rfl (ok_int rfl (vl rfl) (vl rfl) rfl) ?_
    refine Ch.as rfl rfl rfl rfl rfl ?_
    refine Ch.nil (Fin.go (Tr.reg0 ?_))
    refine Ch.mv rfl rfl rfl rfl rfl ?_
    first
     | (refine Ch.oo rfl rfl rfl (ok_sub rfl (vl rfl) (vl rfl) ?hin) ?_; case hin => unfold InI; omega)
     | refine Ch.oo rfl rfl rfl (ok_int rfl (vl rfl) (vl rfl) rfl) ?_
    refine Ch.as rfl rfl rfl rfl rfl ?_
    refine Ch.nil (Fin.block ?_)
    exact Fin.famD3V0 (i2 + 1) (j2 - 1) (_)  (⟨⟨⟨⟨by omega, by omega⟩, by omega, by omega⟩, by simp only [List.length_set]; exact hsl, (peq_go hci2c hcj2c (by omega) (by omega) (by omega) (by omega)).trans hso⟩, by omega⟩) ⟨ke rfl, ke rfl, ke rfl, ke rfl, ke rfl, trivial⟩ (fun _ _ h => h)
set_option maxRecDepth 20000 in
set_option maxHeartbeats 1000000 in
theorem w_spartG {l : List Fnd} {c : Fnd × Fnd → Int} {b0 cap len : Nat} {sp : List Value} {a b pv : Int} (hln : l.length = len) (hll : len ≤ 1000000) (h0 : 0 ≤ a) (hab : a < b) (hb : b ≤ len) (hp1 : a ≤ pv) (hp2 : pv < b) : FunM Tryz.prog 149 [is (.slice (some ⟨b0, 0, none⟩) len cap), int a, int b, int pv, clo Tryz.prog (fun x : Fnd × Fnd => [agg (rowF x.1), agg (rowF x.2)]) (fun x => int (c x))] (ex fun z : Bool => fact True (tup [int ((PA c a b pv l).1 : Nat), bool z])) (cellsRes true b0 42 ((l.map rowF).flatten ++ sp.map is)) (fun _ => relRes b0 42 rowF (PartL c a b pv l) (sp.map is)) := by
 refine FunM.of Tryz.func149 rfl rfl (by exact Nat.le_of_ble_eq_true rfl) fun M0 w0 S rs M1 w1 => ?_
 have hal : a.toNat < l.length := by omega
 have hpv : pv.toNat < l.length := by omega
 have hS1 : ((l.set a.toNat (l[pv.toNat]'hpv)).set pv.toNat (l[a.toNat]'hal)).length = len := by simp only [List.length_set]; exact hln
 refine Tr.seq (Tr.reg0 ?_)
 refine Ch.as rfl rfl rfl rfl rfl ?_
 refine Ch.as rfl rfl rfl rfl rfl ?_
 refine Ch.nil (Fin.go (Tr.seq ?_))
 refine Tr.regX mixed [none, none, none, none, none, none, none, some (0, 0, false, 0), none, none, none, some (0, 0, false, 0), none, some (0, 0, true, 0), none, some (0, 0, true, 0)] (by kernel_rfl) ?_
 iterate 6 refine Cx.mv rfl rfl rfl rfl rfl ?_
 refine Cx.oo rfl rfl rfl (fun _ => okp_indexSl rfl Tryz.underlying27 sz42 (vl rfl) (vl rfl) (by omega) (by omega)) ?_
 refine Cx.rd 0 rfl rfl rfl (by decide) (rd_loadA rfl agg42 sz42 (vl rfl) (cells_atG (f := rowF) (fun _ => rfl) (by omega)) rfl) ?_
 refine Cx.mv rfl rfl rfl rfl rfl ?_
 refine Cx.mv rfl rfl rfl rfl rfl ?_
 refine Cx.oo rfl rfl rfl (fun _ => okp_indexSl rfl Tryz.underlying27 sz42 (vl rfl) (vl rfl) (by omega) (by omega)) ?_
 refine Cx.rd 0 rfl rfl rfl (by decide) (rd_loadA rfl agg42 sz42 (vl rfl) (cells_atG (f := rowF) (fun _ => rfl) (by omega)) rfl) ?_
 refine Cx.oo rfl rfl rfl (fun _ => okp_indexSl rfl Tryz.underlying27 sz42 (vl rfl) (vl rfl) (by omega) (by omega)) ?_
 refine Cx.ef0 0 rfl rfl (ef_store rfl rfl (vl rfl) (VL.le (vl rfl) (agg_cellsP _)) sz42 rfl (by rw [cells_len (sz := 11) (fun _ => rfl)]; first | omega | (simp only [List.length_set]; omega)) (cells_setG (f := rowF) (fun _ => rfl) (by first | omega | (simp only [List.length_set]; omega)))) ?_
 refine Cx.oo rfl rfl rfl (fun _ => okp_indexSl rfl Tryz.underlying27 sz42 (vl rfl) (vl rfl) (by omega) (by omega)) ?_
 refine Cx.ef0 0 rfl rfl (ef_store rfl rfl (vl rfl) (VL.le (vl rfl) (agg_cellsP _)) sz42 rfl (by rw [cells_len (sz := 11) (fun _ => rfl)]; first | omega | (simp only [List.length_set]; omega)) (cells_setG (f := rowF) (fun _ => rfl) (by first | omega | (simp only [List.length_set]; omega)))) ?_
 refine Cx.nil ⟨rfl, ?_⟩
 refine FinX.done (AllC.cons (AllC.cons (AllC.map _))) ?_
 refine Fin.go ?_
 refine Tr.w4 0 1 2 4 rfl rfl rfl rfl ?_
 refine Tr.seq (Tr.reg0 ?_)
 refine Ch.mv rfl rfl rfl rfl rfl ?_
 first
  | (refine Ch.oo rfl rfl rfl (ok_add rfl (vl rfl) (vl rfl) ?hin) ?_; case hin => unfold InI; omega)
  | refine Ch.oo rfl rfl rfl (ok_int rfl (vl rfl) (vl rfl) rfl) ?_
 refine Ch.mv rfl rfl rfl rfl rfl ?_
 first
  | (refine Ch.oo rfl rfl rfl (ok_sub rfl (vl rfl) (vl rfl) ?hin) ?_; case hin => unfold InI; omega)
  | refine Ch.oo rfl rfl rfl (ok_int rfl (vl rfl) (vl rfl) rfl) ?_
 refine Ch.as rfl rfl rfl rfl rfl ?_
 refine Ch.as rfl rfl rfl rfl rfl ?_
 refine Ch.nil (Fin.go ?_)
 refine Tr.w5 0 1 4 12 13 rfl rfl rfl rfl rfl ?_
 refine Tr.cutk [0, 1, 4, 13] [(12, ex fun y : Int => fact (((a + 1) ≤ y ∧ y ≤ b) ∧ True ∧ y.toNat = Go.Sort.scanUp (pU c ((l.set a.toNat (l[pv.toNat]'hpv)).set pv.toNat (l[a.toNat]'hal)).toArray a) ((l.set a.toNat (l[pv.toNat]'hpv)).set pv.toNat (l[a.toNat]'hal)).toArray ((b - 1)).toNat ((a + 1)).toNat) (int y))] (True) ?_ (fun h1 => ?_)
 ·
  refine Tr.block ?_
  refine Tr.loopw [(0, _), (1, _), (4, _), (13, _)] ⟨ke rfl, ke rfl, ke rfl, ke rfl, trivial⟩ (fun y : Int => [(12, int y)]) (fun y : Int => ((a + 1) ≤ y ∧ y ≤ b) ∧ Go.Sort.scanUp (pU c ((l.set a.toNat (l[pv.toNat]'hpv)).set pv.toNat (l[a.toNat]'hal)).toArray a) ((l.set a.toNat (l[pv.toNat]'hpv)).set pv.toNat (l[a.toNat]'hal)).toArray ((b - 1)).toNat (y).toNat = Go.Sort.scanUp (pU c ((l.set a.toNat (l[pv.toNat]'hpv)).set pv.toNat (l[a.toNat]'hal)).toArray a) ((l.set a.toNat (l[pv.toNat]'hpv)).set pv.toNat (l[a.toNat]'hal)).toArray ((b - 1)).toNat ((a + 1)).toNat) (fun y : Int => (b - y).toNat) (a + 1) (⟨⟨by omega, by omega⟩, rfl⟩) ⟨ke rfl, trivial⟩ ?_
  rintro y ⟨⟨hscAa, hscAb⟩, hscAc⟩
  refine Tr.seq (Tr.seq ?_)
  refine Tr.reg1 mixed (by kernel_rfl) ?_
  refine Ch.mv rfl rfl rfl rfl rfl ?_
  refine Ch.mv rfl rfl rfl rfl rfl ?_
  refine Ch.oo rfl rfl rfl (ok_int rfl (vl rfl) (vl rfl) rfl) ?_
  refine Ch.mv rfl rfl rfl rfl rfl ?_
  refine Ch.cs 35 rfl (fun h2 q2 => ?_) (fun h2 q2 => ?_)
  ·
   iterate 3 refine Ch.ym h2 rfl rfl rfl rfl rfl rfl rfl ?_
   refine Ch.y h2 rfl rfl rfl rfl rfl (okp_indexSl rfl Tryz.underlying27 sz42 (vl rfl) (vl rfl) (by omega) (by omega)) ?_
   refine Ch.y h2 rfl rfl rfl rfl rfl (ok_rd 0 rfl (rd_loadA rfl agg42 sz42 (vl rfl) (cells_atG (f := rowF) (fun _ => rfl) (by omega)) rfl)) ?_
   refine Ch.ym h2 rfl rfl rfl rfl rfl rfl rfl ?_
   refine Ch.ym h2 rfl rfl rfl rfl rfl rfl rfl ?_
   refine Ch.y h2 rfl rfl rfl rfl rfl (okp_indexSl rfl Tryz.underlying27 sz42 (vl rfl) (vl rfl) (by omega) (by omega)) ?_
   refine Ch.y h2 rfl rfl rfl rfl rfl (ok_rd 0 rfl (rd_loadA rfl agg42 sz42 (vl rfl) (cells_atG (f := rowF) (fun _ => rfl) (by omega)) rfl)) ?_
   refine Ch.y h2 rfl rfl rfl rfl rfl (ok_callc (_, _) rfl (vl rfl) ⟨ke rfl, ke rfl, trivial⟩) ?_
   refine Ch.y h2 rfl rfl rfl rfl rfl (ok_int rfl (vl rfl) (vl rfl) rfl) ?_
   refine Ch.oo rfl rfl rfl (ok_pick_t rfl (vl rfl) h2 (vl rfl)) ?_
   refine Ch.nil (Fin.go ?_)
   refine Tr.w6 0 1 4 12 13 47 rfl rfl rfl rfl rfl rfl ?_
   refine Tr.cn rfl (fun h3 q3 => ?_) (fun h3 q3 => ?_)
   ·
    have := h3
    refine Tr.skip (Fin.go (Tr.block (Tr.reg0 ?_)))
    refine Ch.mv rfl rfl rfl rfl rfl ?_
    first
     | (refine Ch.oo rfl rfl rfl (ok_add rfl (vl rfl) (vl rfl) ?hin) ?_; case hin => unfold InI; omega)
     | refine Ch.oo rfl rfl rfl (ok_int rfl (vl rfl) (vl rfl) rfl) ?_
    refine Ch.as rfl rfl rfl rfl rfl ?_
    refine Ch.nil (Fin.block ?_)
    exact Fin.fam_same (y + 1) ⟨⟨⟨by omega, by omega⟩, by rw [su_go (by omega) (by omega) (by omega) (pU_t (by omega) (by omega) (by assumption))]; exact hscAc⟩, by omega⟩ ⟨ke rfl, ke rfl, ke rfl, ke rfl, ke rfl, trivial⟩
   ·
    have := h3
    refine Tr.exit ?_
    refine Fin.then_exit ?_
    refine Fin.then_exit ?_
    refine Fin.block_here ?_
    exact Fin.fam_same () trivial ⟨⟨_, rfl, ex_in _ (fact_in ⟨⟨by omega, by omega⟩, trivial, by rw [← hscAc]; first | exact (su_stopA (by omega) (by omega)).symm | exact (su_stopB (by omega) (pU_f (by omega) (by omega) (Int.not_lt.2 (by assumption)))).symm⟩ (Pr.le_refl _))⟩, ke rfl, ke rfl, ke rfl, ke rfl, trivial⟩
  ·
   iterate 11 refine Ch.nt h2 rfl rfl rfl rfl rfl ?_
   refine Ch.oo rfl rfl rfl (ok_pick_f rfl (vl rfl) h2 (vl rfl)) ?_
   refine Ch.nil (Fin.go ?_)
   refine Tr.w6 0 1 4 12 13 47 rfl rfl rfl rfl rfl rfl ?_
   refine Tr.cond rfl (fun h => nomatch h) (fun _ => ?_)
   refine Tr.exit ?_
   refine Fin.then_exit ?_
   refine Fin.then_exit ?_
   refine Fin.block_here ?_
   exact Fin.fam_same () trivial ⟨⟨_, rfl, ex_in _ (fact_in ⟨⟨by omega, by omega⟩, trivial, by rw [← hscAc]; first | exact (su_stopA (by omega) (by omega)).symm | exact (su_stopB (by omega) (pU_f (by omega) (by omega) (Int.not_lt.2 (by assumption)))).symm⟩ (Pr.le_refl _))⟩, ke rfl, ke rfl, ke rfl, ke rfl, trivial⟩
 ·
  refine Tr.ex 12 rfl (fun i1 => Tr.fact 12 rfl fun hci1 => ?_)
  obtain ⟨hci1a, hci1b, hci1c⟩ := hci1
  refine Tr.w5 0 1 4 12 13 rfl rfl rfl rfl rfl ?_
  refine Tr.cutk [0, 1, 4, 12] [(13, ex fun y : Int => fact ((a ≤ y ∧ y ≤ (b - 1)) ∧ True ∧ y.toNat = Go.Sort.scanDown (pD c ((l.set a.toNat (l[pv.toNat]'hpv)).set pv.toNat (l[a.toNat]'hal)).toArray a) ((l.set a.toNat (l[pv.toNat]'hpv)).set pv.toNat (l[a.toNat]'hal)).toArray (i1).toNat ((b - 1)).toNat) (int y))] (True) ?_ (fun h4 => ?_)
  ·
   refine Tr.block ?_
   refine Tr.loopw [(0, _), (1, _), (4, _), (12, _)] ⟨ke rfl, ke rfl, ke rfl, ke rfl, trivial⟩ (fun y : Int => [(13, int y)]) (fun y : Int => (a ≤ y ∧ y ≤ (b - 1)) ∧ Go.Sort.scanDown (pD c ((l.set a.toNat (l[pv.toNat]'hpv)).set pv.toNat (l[a.toNat]'hal)).toArray a) ((l.set a.toNat (l[pv.toNat]'hpv)).set pv.toNat (l[a.toNat]'hal)).toArray (i1).toNat (y).toNat = Go.Sort.scanDown (pD c ((l.set a.toNat (l[pv.toNat]'hpv)).set pv.toNat (l[a.toNat]'hal)).toArray a) ((l.set a.toNat (l[pv.toNat]'hpv)).set pv.toNat (l[a.toNat]'hal)).toArray (i1).toNat ((b - 1)).toNat) (fun y : Int => (y - a).toNat) (b - 1) (⟨⟨by omega, by omega⟩, rfl⟩) ⟨ke rfl, trivial⟩ ?_
   rintro y ⟨⟨hscBa, hscBb⟩, hscBc⟩
   refine Tr.seq (Tr.seq ?_)
   refine Tr.reg1 mixed (by kernel_rfl) ?_
   refine Ch.mv rfl rfl rfl rfl rfl ?_
   refine Ch.mv rfl rfl rfl rfl rfl ?_
   refine Ch.oo rfl rfl rfl (ok_int rfl (vl rfl) (vl rfl) rfl) ?_
   refine Ch.mv rfl rfl rfl rfl rfl ?_
   refine Ch.cs 53 rfl (fun h5 q5 => ?_) (fun h5 q5 => ?_)
   ·
    iterate 3 refine Ch.ym h5 rfl rfl rfl rfl rfl rfl rfl ?_
    refine Ch.y h5 rfl rfl rfl rfl rfl (okp_indexSl rfl Tryz.underlying27 sz42 (vl rfl) (vl rfl) (by omega) (by omega)) ?_
    refine Ch.y h5 rfl rfl rfl rfl rfl (ok_rd 0 rfl (rd_loadA rfl agg42 sz42 (vl rfl) (cells_atG (f := rowF) (fun _ => rfl) (by omega)) rfl)) ?_
    refine Ch.ym h5 rfl rfl rfl rfl rfl rfl rfl ?_
    refine Ch.ym h5 rfl rfl rfl rfl rfl rfl rfl ?_
    refine Ch.y h5 rfl rfl rfl rfl rfl (okp_indexSl rfl Tryz.underlying27 sz42 (vl rfl) (vl rfl) (by omega) (by omega)) ?_
    refine Ch.y h5 rfl rfl rfl rfl rfl (ok_rd 0 rfl (rd_loadA rfl agg42 sz42 (vl rfl) (cells_atG (f := rowF) (fun _ => rfl) (by omega)) rfl)) ?_
    refine Ch.y h5 rfl rfl rfl rfl rfl (ok_callc (_, _) rfl (vl rfl) ⟨ke rfl, ke rfl, trivial⟩) ?_
    refine Ch.y h5 rfl rfl rfl rfl rfl (ok_int rfl (vl rfl) (vl rfl) rfl) ?_
    refine Ch.y h5 rfl rfl rfl rfl rfl (ok_not rfl (vl rfl)) ?_
    refine Ch.oo rfl rfl rfl (ok_pick_t rfl (vl rfl) h5 (vl rfl)) ?_
    refine Ch.nil (Fin.go ?_)
    refine Tr.w6 0 1 4 12 13 66 rfl rfl rfl rfl rfl rfl ?_
    refine Tr.cn rfl (fun h6 q6 => ?_) (fun h6 q6 => ?_)
    ·
     have := h6
     refine Tr.skip (Fin.go (Tr.block (Tr.reg0 ?_)))
     refine Ch.mv rfl rfl rfl rfl rfl ?_
     first
      | (refine Ch.oo rfl rfl rfl (ok_sub rfl (vl rfl) (vl rfl) ?hin) ?_; case hin => unfold InI; omega)
      | refine Ch.oo rfl rfl rfl (ok_int rfl (vl rfl) (vl rfl) rfl) ?_
     refine Ch.as rfl rfl rfl rfl rfl ?_
     refine Ch.nil (Fin.block ?_)
     exact Fin.fam_same (y - 1) ⟨⟨⟨by omega, by omega⟩, by rw [sd_go (by omega) (by omega) (by omega) (pD_t (by omega) (by omega) (Int.not_lt.2 (by assumption)))]; exact hscBc⟩, by omega⟩ ⟨ke rfl, ke rfl, ke rfl, ke rfl, ke rfl, trivial⟩
    ·
     have := h6
     refine Tr.exit ?_
     refine Fin.then_exit ?_
     refine Fin.then_exit ?_
     refine Fin.block_here ?_
     exact Fin.fam_same () trivial ⟨⟨_, rfl, ex_in _ (fact_in ⟨⟨by omega, by omega⟩, trivial, by rw [← hscBc]; first | exact (sd_stopA (by omega) (by omega)).symm | exact (sd_stopB (by omega) (pD_f (by omega) (by omega) (by assumption))).symm⟩ (Pr.le_refl _))⟩, ke rfl, ke rfl, ke rfl, ke rfl, trivial⟩
   ·
    iterate 12 refine Ch.nt h5 rfl rfl rfl rfl rfl ?_
    refine Ch.oo rfl rfl rfl (ok_pick_f rfl (vl rfl) h5 (vl rfl)) ?_
    refine Ch.nil (Fin.go ?_)
    refine Tr.w6 0 1 4 12 13 66 rfl rfl rfl rfl rfl rfl ?_
    refine Tr.cond rfl (fun h => nomatch h) (fun _ => ?_)
    refine Tr.exit ?_
    refine Fin.then_exit ?_
    refine Fin.then_exit ?_
    refine Fin.block_here ?_
    exact Fin.fam_same () trivial ⟨⟨_, rfl, ex_in _ (fact_in ⟨⟨by omega, by omega⟩, trivial, by rw [← hscBc]; first | exact (sd_stopA (by omega) (by omega)).symm | exact (sd_stopB (by omega) (pD_f (by omega) (by omega) (by assumption))).symm⟩ (Pr.le_refl _))⟩, ke rfl, ke rfl, ke rfl, ke rfl, trivial⟩
  ·
   refine Tr.ex 13 rfl (fun j1 => Tr.fact 13 rfl fun hcj1 => ?_)
   obtain ⟨hcj1a, hcj1b, hcj1c⟩ := hcj1
   refine Tr.seq (Tr.seq (Tr.reg0 ?_))
   refine Ch.mv rfl rfl rfl rfl rfl ?_
   refine Ch.mv rfl rfl rfl rfl rfl ?_
   refine Ch.oo rfl rfl rfl (ok_int rfl (vl rfl) (vl rfl) rfl) ?_
   refine Ch.nil (Fin.go ?_)
   refine Tr.cn rfl (fun h7 q7 => ?_) (fun h7 q7 => ?_)
   ·
    refine Tr.seq ?_
    refine Tr.regX mixed [none, none, none, none, none, none, none, some (0, 0, false, 0), none, none, none, some (0, 0, false, 0), none, some (0, 0, true, 0), none, some (0, 0, true, 0)] (by kernel_rfl) ?_
    iterate 6 refine Cx.mv rfl rfl rfl rfl rfl ?_
    refine Cx.oo rfl rfl rfl (fun _ => okp_indexSl rfl Tryz.underlying27 sz42 (vl rfl) (vl rfl) (by omega) (by omega)) ?_
    refine Cx.rd 0 rfl rfl rfl (by decide) (rd_loadA rfl agg42 sz42 (vl rfl) (cells_atG (f := rowF) (fun _ => rfl) (by omega)) rfl) ?_
    refine Cx.mv rfl rfl rfl rfl rfl ?_
    refine Cx.mv rfl rfl rfl rfl rfl ?_
    refine Cx.oo rfl rfl rfl (fun _ => okp_indexSl rfl Tryz.underlying27 sz42 (vl rfl) (vl rfl) (by omega) (by omega)) ?_
    refine Cx.rd 0 rfl rfl rfl (by decide) (rd_loadA rfl agg42 sz42 (vl rfl) (cells_atG (f := rowF) (fun _ => rfl) (by omega)) rfl) ?_
    refine Cx.oo rfl rfl rfl (fun _ => okp_indexSl rfl Tryz.underlying27 sz42 (vl rfl) (vl rfl) (by omega) (by omega)) ?_
    refine Cx.ef0 0 rfl rfl (ef_store rfl rfl (vl rfl) (VL.le (vl rfl) (agg_cellsP _)) sz42 rfl (by rw [cells_len (sz := 11) (fun _ => rfl)]; first | omega | (simp only [List.length_set]; omega)) (cells_setG (f := rowF) (fun _ => rfl) (by first | omega | (simp only [List.length_set]; omega)))) ?_
    refine Cx.oo rfl rfl rfl (fun _ => okp_indexSl rfl Tryz.underlying27 sz42 (vl rfl) (vl rfl) (by omega) (by omega)) ?_
    refine Cx.ef0 0 rfl rfl (ef_store rfl rfl (vl rfl) (VL.le (vl rfl) (agg_cellsP _)) sz42 rfl (by rw [cells_len (sz := 11) (fun _ => rfl)]; first | omega | (simp only [List.length_set]; omega)) (cells_setG (f := rowF) (fun _ => rfl) (by first | omega | (simp only [List.length_set]; omega)))) ?_
    refine Cx.nil ⟨rfl, ?_⟩
    refine FinX.done (AllC.cons (AllC.cons (AllC.map _))) ?_
    refine Fin.go ?_
    refine Tr.w1 13 rfl ?_
    refine Tr.seq (Tr.reg0 ?_)
    refine Ch.mv rfl rfl rfl rfl rfl ?_
    refine Ch.as rfl rfl rfl rfl rfl ?_
    refine Ch.as rfl rfl rfl rfl rfl ?_
    refine Ch.nil (Fin.go (Tr.ret ?_))
    refine Fin.then_ret ?_
    refine Fin.closeL (PartL c a b pv l) 0 rfl (⟨by simp only [List.length_set], (pa_start h0 hab hal hpv (part_stop hci1c hcj1c (by omega) (by omega)) (by omega) (by omega)).2⟩) ?_
    refine Fin.retY2 [] rfl (RVal.tmp rfl (Pr.le_refl _)) (RVal.tmp rfl (Pr.le_refl _)) ?_
    · exact ex_in true (fact_in trivial (Pr.le_of_eq (by rw [(pa_start h0 hab hal hpv (part_stop hci1c hcj1c (by omega) (by omega)) (by omega) (by omega)).1, Int.toNat_of_nonneg (by omega)])))
   ·
    refine Tr.skip (Fin.go (Tr.seq ?_))
    refine Tr.regX mixed [none, none, none, none, none, none, none, some (0, 0, false, 0), none, none, none, some (0, 0, false, 0), none, some (0, 0, true, 0), none, some (0, 0, true, 0)] (by kernel_rfl) ?_
    iterate 6 refine Cx.mv rfl rfl rfl rfl rfl ?_
    refine Cx.oo rfl rfl rfl (fun _ => okp_indexSl rfl Tryz.underlying27 sz42 (vl rfl) (vl rfl) (by omega) (by omega)) ?_
    refine Cx.rd 0 rfl rfl rfl (by decide) (rd_loadA rfl agg42 sz42 (vl rfl) (cells_atG (f := rowF) (fun _ => rfl) (by omega)) rfl) ?_
    refine Cx.mv rfl rfl rfl rfl rfl ?_
    refine Cx.mv rfl rfl rfl rfl rfl ?_
    refine Cx.oo rfl rfl rfl (fun _ => okp_indexSl rfl Tryz.underlying27 sz42 (vl rfl) (vl rfl) (by omega) (by omega)) ?_
    refine Cx.rd 0 rfl rfl rfl (by decide) (rd_loadA rfl agg42 sz42 (vl rfl) (cells_atG (f := rowF) (fun _ => rfl) (by omega)) rfl) ?_
    refine Cx.oo rfl rfl rfl (fun _ => okp_indexSl rfl Tryz.underlying27 sz42 (vl rfl) (vl rfl) (by omega) (by omega)) ?_
    refine Cx.ef0 0 rfl rfl (ef_store rfl rfl (vl rfl) (VL.le (vl rfl) (agg_cellsP _)) sz42 rfl (by rw [cells_len (sz := 11) (fun _ => rfl)]; first | omega | (simp only [List.length_set]; omega)) (cells_setG (f := rowF) (fun _ => rfl) (by first | omega | (simp only [List.length_set]; omega)))) ?_
    refine Cx.oo rfl rfl rfl (fun _ => okp_indexSl rfl Tryz.underlying27 sz42 (vl rfl) (vl rfl) (by omega) (by omega)) ?_
    refine Cx.ef0 0 rfl rfl (ef_store rfl rfl (vl rfl) (VL.le (vl rfl) (agg_cellsP _)) sz42 rfl (by rw [cells_len (sz := 11) (fun _ => rfl)]; first | omega | (simp only [List.length_set]; omega)) (cells_setG (f := rowF) (fun _ => rfl) (by first | omega | (simp only [List.length_set]; omega)))) ?_
    refine Cx.nil ⟨rfl, ?_⟩
    refine FinX.done (AllC.cons (AllC.cons (AllC.map _))) ?_
    refine Fin.go ?_
    refine Tr.w5 0 1 4 12 13 rfl rfl rfl rfl rfl ?_
    refine Tr.seq (Tr.reg0 ?_)
    refine Ch.mv rfl rfl rfl rfl rfl ?_
    first
     | (refine Ch.oo rfl rfl rfl (ok_add rfl (vl rfl) (vl rfl) ?hin) ?_; case hin => unfold InI; omega)
     | refine Ch.oo rfl rfl rfl (ok_int rfl (vl rfl) (vl rfl) rfl) ?_
    refine Ch.as rfl rfl rfl rfl rfl ?_
    refine Ch.nil (Fin.go (Tr.seq (Tr.reg0 ?_)))
    refine Ch.mv rfl rfl rfl rfl rfl ?_
    first
     | (refine Ch.oo rfl rfl rfl (ok_sub rfl (vl rfl) (vl rfl) ?hin) ?_; case hin => unfold InI; omega)
     | refine Ch.oo rfl rfl rfl (ok_int rfl (vl rfl) (vl rfl) rfl) ?_
    refine Ch.as rfl rfl rfl rfl rfl ?_
    refine Ch.nil (Fin.go (Tr.seq (Tr.block ?_)))
    refine Tr.loopD3V0 [(0, _), (1, _), (4, _)] ⟨ke rfl, ke rfl, ke rfl, trivial⟩ (fun (i : Int) (j : Int) (st : List Fnd) => [(12, int i), (13, int j)]) (fun (i : Int) (j : Int) (st : List Fnd) => Hp M0 w0 S (cellsRes true b0 42 ((st.map rowF).flatten ++ sp.map is) :: extRes M1 w1 :: rs)) (fun (i : Int) (j : Int) (st : List Fnd) => ((a < i ∧ i ≤ b) ∧ a ≤ j ∧ j < b) ∧ st.length = len ∧ PLp c a i j st.toArray = PLp c a (a + 1) (b - 1) ((l.set a.toNat (l[pv.toNat]'hpv)).set pv.toNat (l[a.toNat]'hal)).toArray) (fun (i : Int) (j : Int) (st : List Fnd) => (j - i + 2).toNat) (i1 + 1) (j1 - 1) (_)  (⟨⟨⟨by omega, by omega⟩, by omega, by omega⟩, by simp only [List.length_set]; exact hln, part_go hci1c hcj1c (by omega) (by omega) (by omega) (by omega)⟩) ⟨ke rfl, ke rfl, trivial⟩ (fun _ _ h => h) ?_
    rintro i j st  ⟨⟨⟨hi1, hi2⟩, hj1, hj2⟩, hsl, hso⟩
    refine Tr.block ?_
    refine Tr.w5 0 1 4 12 13 rfl rfl rfl rfl rfl ?_
    refine Tr.cutk [0, 1, 4, 13] [(12, ex fun y : Int => fact ((i ≤ y ∧ y ≤ b) ∧ True ∧ y.toNat = Go.Sort.scanUp (pU c st.toArray a) st.toArray (j).toNat (i).toNat) (int y))] (True) ?_ (fun h8 => ?_)
    ·
     refine Tr.block ?_
     refine Tr.loopw [(0, _), (1, _), (4, _), (13, _)] ⟨ke rfl, ke rfl, ke rfl, ke rfl, trivial⟩ (fun y : Int => [(12, int y)]) (fun y : Int => (i ≤ y ∧ y ≤ b) ∧ Go.Sort.scanUp (pU c st.toArray a) st.toArray (j).toNat (y).toNat = Go.Sort.scanUp (pU c st.toArray a) st.toArray (j).toNat (i).toNat) (fun y : Int => (b - y).toNat) i (⟨⟨by omega, by omega⟩, rfl⟩) ⟨ke rfl, trivial⟩ ?_
     rintro y ⟨⟨hscAa, hscAb⟩, hscAc⟩
     refine Tr.seq (Tr.seq ?_)
     refine Tr.reg1 mixed (by kernel_rfl) ?_
     refine Ch.mv rfl rfl rfl rfl rfl ?_
     refine Ch.mv rfl rfl rfl rfl rfl ?_
     refine Ch.oo rfl rfl rfl (ok_int rfl (vl rfl) (vl rfl) rfl) ?_
     refine Ch.mv rfl rfl rfl rfl rfl ?_
     refine Ch.cs 108 rfl (fun h9 q9 => ?_) (fun h9 q9 => ?_)
     ·
      iterate 3 refine Ch.ym h9 rfl rfl rfl rfl rfl rfl rfl ?_
      refine Ch.y h9 rfl rfl rfl rfl rfl (okp_indexSl rfl Tryz.underlying27 sz42 (vl rfl) (vl rfl) (by omega) (by omega)) ?_
      refine Ch.y h9 rfl rfl rfl rfl rfl (ok_rd 0 rfl (rd_loadA rfl agg42 sz42 (vl rfl) (cells_atG (f := rowF) (fun _ => rfl) (by omega)) rfl)) ?_
      refine Ch.ym h9 rfl rfl rfl rfl rfl rfl rfl ?_
      refine Ch.ym h9 rfl rfl rfl rfl rfl rfl rfl ?_
      refine Ch.y h9 rfl rfl rfl rfl rfl (okp_indexSl rfl Tryz.underlying27 sz42 (vl rfl) (vl rfl) (by omega) (by omega)) ?_
      refine Ch.y h9 rfl rfl rfl rfl rfl (ok_rd 0 rfl (rd_loadA rfl agg42 sz42 (vl rfl) (cells_atG (f := rowF) (fun _ => rfl) (by omega)) rfl)) ?_
      refine Ch.y h9 rfl rfl rfl rfl rfl (ok_callc (_, _) rfl (vl rfl) ⟨ke rfl, ke rfl, trivial⟩) ?_
      refine Ch.y h9 rfl rfl rfl rfl rfl (ok_int rfl (vl rfl) (vl rfl) rfl) ?_
      refine Ch.oo rfl rfl rfl (ok_pick_t rfl (vl rfl) h9 (vl rfl)) ?_
      refine Ch.nil (Fin.go ?_)
      refine Tr.w6 0 1 4 12 13 120 rfl rfl rfl rfl rfl rfl ?_
      refine Tr.cn rfl (fun h10 q10 => ?_) (fun h10 q10 => ?_)
      ·
       have := h10
       refine Tr.skip (Fin.go (Tr.block (Tr.reg0 ?_)))
       refine Ch.mv rfl rfl rfl rfl rfl ?_
       first
        | (refine Ch.oo rfl rfl rfl (ok_add rfl (vl rfl) (vl rfl) ?hin) ?_; case hin => unfold InI; omega)
        | refine Ch.oo rfl rfl rfl (ok_int rfl (vl rfl) (vl rfl) rfl) ?_
       refine Ch.as rfl rfl rfl rfl rfl ?_
       refine Ch.nil (Fin.block ?_)
       exact Fin.fam_same (y + 1) ⟨⟨⟨by omega, by omega⟩, by rw [su_go (by omega) (by omega) (by omega) (pU_t (by omega) (by omega) (by assumption))]; exact hscAc⟩, by omega⟩ ⟨ke rfl, ke rfl, ke rfl, ke rfl, ke rfl, trivial⟩
      ·
       have := h10
       refine Tr.exit ?_
       refine Fin.then_exit ?_
       refine Fin.then_exit ?_
       refine Fin.block_here ?_
       exact Fin.fam_same () trivial ⟨⟨_, rfl, ex_in _ (fact_in ⟨⟨by omega, by omega⟩, trivial, by rw [← hscAc]; first | exact (su_stopA (by omega) (by omega)).symm | exact (su_stopB (by omega) (pU_f (by omega) (by omega) (Int.not_lt.2 (by assumption)))).symm⟩ (Pr.le_refl _))⟩, ke rfl, ke rfl, ke rfl, ke rfl, trivial⟩
     ·
      iterate 11 refine Ch.nt h9 rfl rfl rfl rfl rfl ?_
      refine Ch.oo rfl rfl rfl (ok_pick_f rfl (vl rfl) h9 (vl rfl)) ?_
      refine Ch.nil (Fin.go ?_)
      refine Tr.w6 0 1 4 12 13 120 rfl rfl rfl rfl rfl rfl ?_
      refine Tr.cond rfl (fun h => nomatch h) (fun _ => ?_)
      refine Tr.exit ?_
      refine Fin.then_exit ?_
      refine Fin.then_exit ?_
      refine Fin.block_here ?_
      exact Fin.fam_same () trivial ⟨⟨_, rfl, ex_in _ (fact_in ⟨⟨by omega, by omega⟩, trivial, by rw [← hscAc]; first | exact (su_stopA (by omega) (by omega)).symm | exact (su_stopB (by omega) (pU_f (by omega) (by omega) (Int.not_lt.2 (by assumption)))).symm⟩ (Pr.le_refl _))⟩, ke rfl, ke rfl, ke rfl, ke rfl, trivial⟩
    ·
     refine Tr.ex 12 rfl (fun i2 => Tr.fact 12 rfl fun hci2 => ?_)
     obtain ⟨hci2a, hci2b, hci2c⟩ := hci2
     refine Tr.w5 0 1 4 12 13 rfl rfl rfl rfl rfl ?_
     refine Tr.cutk [0, 1, 4, 12] [(13, ex fun y : Int => fact ((a ≤ y ∧ y ≤ j) ∧ True ∧ y.toNat = Go.Sort.scanDown (pD c st.toArray a) st.toArray (i2).toNat (j).toNat) (int y))] (True) ?_ (fun h11 => ?_)
     ·
      refine Tr.block ?_
      refine Tr.loopw [(0, _), (1, _), (4, _), (12, _)] ⟨ke rfl, ke rfl, ke rfl, ke rfl, trivial⟩ (fun y : Int => [(13, int y)]) (fun y : Int => (a ≤ y ∧ y ≤ j) ∧ Go.Sort.scanDown (pD c st.toArray a) st.toArray (i2).toNat (y).toNat = Go.Sort.scanDown (pD c st.toArray a) st.toArray (i2).toNat (j).toNat) (fun y : Int => (y - a).toNat) j (⟨⟨by omega, by omega⟩, rfl⟩) ⟨ke rfl, trivial⟩ ?_
      rintro y ⟨⟨hscBa, hscBb⟩, hscBc⟩
      refine Tr.seq (Tr.seq ?_)
      refine Tr.reg1 mixed (by kernel_rfl) ?_
      refine Ch.mv rfl rfl rfl rfl rfl ?_
      refine Ch.mv rfl rfl rfl rfl rfl ?_
      refine Ch.oo rfl rfl rfl (ok_int rfl (vl rfl) (vl rfl) rfl) ?_
      refine Ch.mv rfl rfl rfl rfl rfl ?_
      refine Ch.cs 126 rfl (fun h12 q12 => ?_) (fun h12 q12 => ?_)
      ·
       iterate 3 refine Ch.ym h12 rfl rfl rfl rfl rfl rfl rfl ?_
       refine Ch.y h12 rfl rfl rfl rfl rfl (okp_indexSl rfl Tryz.underlying27 sz42 (vl rfl) (vl rfl) (by omega) (by omega)) ?_
       refine Ch.y h12 rfl rfl rfl rfl rfl (ok_rd 0 rfl (rd_loadA rfl agg42 sz42 (vl rfl) (cells_atG (f := rowF) (fun _ => rfl) (by omega)) rfl)) ?_
       refine Ch.ym h12 rfl rfl rfl rfl rfl rfl rfl ?_
       refine Ch.ym h12 rfl rfl rfl rfl rfl rfl rfl ?_
       refine Ch.y h12 rfl rfl rfl rfl rfl (okp_indexSl rfl Tryz.underlying27 sz42 (vl rfl) (vl rfl) (by omega) (by omega)) ?_
       refine Ch.y h12 rfl rfl rfl rfl rfl (ok_rd 0 rfl (rd_loadA rfl agg42 sz42 (vl rfl) (cells_atG (f := rowF) (fun _ => rfl) (by omega)) rfl)) ?_
       refine Ch.y h12 rfl rfl rfl rfl rfl (ok_callc (_, _) rfl (vl rfl) ⟨ke rfl, ke rfl, trivial⟩) ?_
       refine Ch.y h12 rfl rfl rfl rfl rfl (ok_int rfl (vl rfl) (vl rfl) rfl) ?_
       refine Ch.y h12 rfl rfl rfl rfl rfl (ok_not rfl (vl rfl)) ?_
       refine Ch.oo rfl rfl rfl (ok_pick_t rfl (vl rfl) h12 (vl rfl)) ?_
       refine Ch.nil (Fin.go ?_)
       refine Tr.w6 0 1 4 12 13 139 rfl rfl rfl rfl rfl rfl ?_
       refine Tr.cn rfl (fun h13 q13 => ?_) (fun h13 q13 => ?_)
       ·
        have := h13
        refine Tr.skip (Fin.go (Tr.block (Tr.reg0 ?_)))
        refine Ch.mv rfl rfl rfl rfl rfl ?_
        first
         | (refine Ch.oo rfl rfl rfl (ok_sub rfl (vl rfl) (vl rfl) ?hin) ?_; case hin => unfold InI; omega)
         | refine Ch.oo rfl rfl rfl (ok_int rfl (vl rfl) (vl rfl) rfl) ?_
        refine Ch.as rfl rfl rfl rfl rfl ?_
        refine Ch.nil (Fin.block ?_)
        exact Fin.fam_same (y - 1) ⟨⟨⟨by omega, by omega⟩, by rw [sd_go (by omega) (by omega) (by omega) (pD_t (by omega) (by omega) (Int.not_lt.2 (by assumption)))]; exact hscBc⟩, by omega⟩ ⟨ke rfl, ke rfl, ke rfl, ke rfl, ke rfl, trivial⟩
       ·
        have := h13
        refine Tr.exit ?_
        refine Fin.then_exit ?_
        refine Fin.then_exit ?_
        refine Fin.block_here ?_
        exact Fin.fam_same () trivial ⟨⟨_, rfl, ex_in _ (fact_in ⟨⟨by omega, by omega⟩, trivial, by rw [← hscBc]; first | exact (sd_stopA (by omega) (by omega)).symm | exact (sd_stopB (by omega) (pD_f (by omega) (by omega) (by assumption))).symm⟩ (Pr.le_refl _))⟩, ke rfl, ke rfl, ke rfl, ke rfl, trivial⟩
      ·
       iterate 12 refine Ch.nt h12 rfl rfl rfl rfl rfl ?_
       refine Ch.oo rfl rfl rfl (ok_pick_f rfl (vl rfl) h12 (vl rfl)) ?_
       refine Ch.nil (Fin.go ?_)
       refine Tr.w6 0 1 4 12 13 139 rfl rfl rfl rfl rfl rfl ?_
       refine Tr.cond rfl (fun h => nomatch h) (fun _ => ?_)
       refine Tr.exit ?_
       refine Fin.then_exit ?_
       refine Fin.then_exit ?_
       refine Fin.block_here ?_
       exact Fin.fam_same () trivial ⟨⟨_, rfl, ex_in _ (fact_in ⟨⟨by omega, by omega⟩, trivial, by rw [← hscBc]; first | exact (sd_stopA (by omega) (by omega)).symm | exact (sd_stopB (by omega) (pD_f (by omega) (by omega) (by assumption))).symm⟩ (Pr.le_refl _))⟩, ke rfl, ke rfl, ke rfl, ke rfl, trivial⟩
     ·
      refine Tr.ex 13 rfl (fun j2 => Tr.fact 13 rfl fun hcj2 => ?_)
      obtain ⟨hcj2a, hcj2b, hcj2c⟩ := hcj2
      refine Tr.seq (Tr.seq (Tr.reg0 ?_))
      refine Ch.mv rfl rfl rfl rfl rfl ?_
      refine Ch.mv rfl rfl rfl rfl rfl ?_
      refine Ch.oo rfl rfl rfl (ok_int rfl (vl rfl) (vl rfl) rfl) ?_
      refine Ch.nil (Fin.go ?_)
      refine Tr.cn rfl (fun h14 q14 => ?_) (fun h14 q14 => ?_)
      ·
       refine Tr.exit ?_
       refine Fin.then_exit ?_
       refine Fin.block_on rfl ?_
       refine Fin.then_exit ?_
       refine Fin.block_here ?_
       refine Fin.go (Tr.seq ?_)
       refine Tr.regX mixed [none, none, none, none, none, none, none, some (0, 0, false, 0), none, none, none, some (0, 0, false, 0), none, some (0, 0, true, 0), none, some (0, 0, true, 0)] (by kernel_rfl) ?_
       iterate 6 refine Cx.mv rfl rfl rfl rfl rfl ?_
       refine Cx.oo rfl rfl rfl (fun _ => okp_indexSl rfl Tryz.underlying27 sz42 (vl rfl) (vl rfl) (by omega) (by omega)) ?_
       refine Cx.rd 0 rfl rfl rfl (by decide) (rd_loadA rfl agg42 sz42 (vl rfl) (cells_atG (f := rowF) (fun _ => rfl) (by omega)) rfl) ?_
       refine Cx.mv rfl rfl rfl rfl rfl ?_
       refine Cx.mv rfl rfl rfl rfl rfl ?_
       refine Cx.oo rfl rfl rfl (fun _ => okp_indexSl rfl Tryz.underlying27 sz42 (vl rfl) (vl rfl) (by omega) (by omega)) ?_
       refine Cx.rd 0 rfl rfl rfl (by decide) (rd_loadA rfl agg42 sz42 (vl rfl) (cells_atG (f := rowF) (fun _ => rfl) (by omega)) rfl) ?_
       refine Cx.oo rfl rfl rfl (fun _ => okp_indexSl rfl Tryz.underlying27 sz42 (vl rfl) (vl rfl) (by omega) (by omega)) ?_
       refine Cx.ef0 0 rfl rfl (ef_store rfl rfl (vl rfl) (VL.le (vl rfl) (agg_cellsP _)) sz42 rfl (by rw [cells_len (sz := 11) (fun _ => rfl)]; first | omega | (simp only [List.length_set]; omega)) (cells_setG (f := rowF) (fun _ => rfl) (by first | omega | (simp only [List.length_set]; omega)))) ?_
       refine Cx.oo rfl rfl rfl (fun _ => okp_indexSl rfl Tryz.underlying27 sz42 (vl rfl) (vl rfl) (by omega) (by omega)) ?_
       refine Cx.ef0 0 rfl rfl (ef_store rfl rfl (vl rfl) (VL.le (vl rfl) (agg_cellsP _)) sz42 rfl (by rw [cells_len (sz := 11) (fun _ => rfl)]; first | omega | (simp only [List.length_set]; omega)) (cells_setG (f := rowF) (fun _ => rfl) (by first | omega | (simp only [List.length_set]; omega)))) ?_
       refine Cx.nil ⟨rfl, ?_⟩
       refine FinX.done (AllC.cons (AllC.cons (AllC.map _))) ?_
       refine Fin.go ?_
       refine Tr.w1 13 rfl ?_
       refine Tr.seq (Tr.reg0 ?_)
       refine Ch.mv rfl rfl rfl rfl rfl ?_
       refine Ch.as rfl rfl rfl rfl rfl ?_
       refine Ch.as rfl rfl rfl rfl rfl ?_
       refine Ch.nil (Fin.go (Tr.ret ?_))
       refine Fin.closeL (PartL c a b pv l) 0 rfl (⟨by simp only [List.length_set]; omega, (pa_start h0 hab hal hpv (hso.symm.trans (part_stop hci2c hcj2c (by omega) (by omega))) (by omega) (by omega)).2⟩) ?_
       refine Fin.retY2 [] rfl (RVal.tmp rfl (Pr.le_refl _)) (RVal.tmp rfl (Pr.le_refl _)) ?_
       · exact ex_in false (fact_in trivial (Pr.le_of_eq (by rw [(pa_start h0 hab hal hpv (hso.symm.trans (part_stop hci2c hcj2c (by omega) (by omega))) (by omega) (by omega)).1, Int.toNat_of_nonneg (by omega)])))
      ·
       refine Tr.skip (Fin.go (Tr.seq ?_))
       refine Tr.regX mixed [none, none, none, none, none, none, none, some (0, 0, false, 0), none, none, none, some (0, 0, false, 0), none, some (0, 0, true, 0), none, some (0, 0, true, 0)] (by kernel_rfl) ?_
       iterate 6 refine Cx.mv rfl rfl rfl rfl rfl ?_
       refine Cx.oo rfl rfl rfl (fun _ => okp_indexSl rfl Tryz.underlying27 sz42 (vl rfl) (vl rfl) (by omega) (by omega)) ?_
       refine Cx.rd 0 rfl rfl rfl (by decide) (rd_loadA rfl agg42 sz42 (vl rfl) (cells_atG (f := rowF) (fun _ => rfl) (by omega)) rfl) ?_
       refine Cx.mv rfl rfl rfl rfl rfl ?_
       refine Cx.mv rfl rfl rfl rfl rfl ?_
       refine Cx.oo rfl rfl rfl (fun _ => okp_indexSl rfl Tryz.underlying27 sz42 (vl rfl) (vl rfl) (by omega) (by omega)) ?_
       refine Cx.rd 0 rfl rfl rfl (by decide) (rd_loadA rfl agg42 sz42 (vl rfl) (cells_atG (f := rowF) (fun _ => rfl) (by omega)) rfl) ?_
       refine Cx.oo rfl rfl rfl (fun _ => okp_indexSl rfl Tryz.underlying27 sz42 (vl rfl) (vl rfl) (by omega) (by omega)) ?_
       refine Cx.ef0 0 rfl rfl (ef_store rfl rfl (vl rfl) (VL.le (vl rfl) (agg_cellsP _)) sz42 rfl (by rw [cells_len (sz := 11) (fun _ => rfl)]; first | omega | (simp only [List.length_set]; omega)) (cells_setG (f := rowF) (fun _ => rfl) (by first | omega | (simp only [List.length_set]; omega)))) ?_
       refine Cx.oo rfl rfl rfl (fun _ => okp_indexSl rfl Tryz.underlying27 sz42 (vl rfl) (vl rfl) (by omega) (by omega)) ?_
       refine Cx.ef0 0 rfl rfl (ef_store rfl rfl (vl rfl) (VL.le (vl rfl) (agg_cellsP _)) sz42 rfl (by rw [cells_len (sz := 11) (fun _ => rfl)]; first | omega | (simp only [List.length_set]; omega)) (cells_setG (f := rowF) (fun _ => rfl) (by first | omega | (simp only [List.length_set]; omega)))) ?_
       refine Cx.nil ⟨rfl, ?_⟩
       refine FinX.done (AllC.cons (AllC.cons (AllC.map _))) ?_
       refine Fin.go ?_
       refine Tr.w5 0 1 4 12 13 rfl rfl rfl rfl rfl ?_
       refine Tr.seq (Tr.reg0 ?_)
       refine Ch.mv rfl rfl rfl rfl rfl ?_
       first
        | (refine Ch.oo rfl rfl rfl (ok_add rfl (vl rfl) (vl rfl) ?hin) ?_; case hin => unfold InI; omega)
        | refine Ch.oo rfl rfl rfl (ok_int rfl (vl rfl) (vl rfl) rfl) ?_
       refine Ch.as rfl rfl rfl rfl rfl ?_
       refine Ch.nil (Fin.go (Tr.reg0 ?_))
       refine Ch.mv rfl rfl rfl rfl rfl ?_
       first
        | (refine Ch.oo rfl rfl rfl (ok_sub rfl (vl rfl) (vl rfl) ?hin) ?_; case hin => unfold InI; omega)
        | refine Ch.oo rfl rfl rfl (ok_int rfl (vl rfl) (vl rfl) rfl) ?_
       refine Ch.as rfl rfl rfl rfl rfl ?_
       refine Ch.nil (Fin.block ?_)
       exact Fin.famD3V0 (i2 + 1) (j2 - 1) (_)  (⟨⟨⟨⟨by omega, by omega⟩, by omega, by omega⟩, by simp only [List.length_set]; exact hsl, (part_go hci2c hcj2c (by omega) (by omega) (by omega) (by omega)).trans hso⟩, by omega⟩) ⟨ke rfl, ke rfl, ke rfl, ke rfl, ke rfl, trivial⟩ (fun _ _ h => h)
set_option maxRecDepth 20000 in
theorem w_sins5G {l : List Fnd} {c : Fnd × Fnd → Int} {b0 cap len : Nat} {sp : List Value} {a b : Int} (hln : l.length = len) (hll : len ≤ 1000000) (hw : Go.Sort.SWO (ltc c)) (h0 : 0 ≤ a) (hab : a < b) (hb : b ≤ len) (hb5 : b < 50) : FunM Tryz.prog 147 [is (.slice (some ⟨b0, 0, none⟩) len cap), int a, int b, clo Tryz.prog (fun x : Fnd × Fnd => [agg (rowF x.1), agg (rowF x.2)]) (fun x => int (c x))] (ex fun z : Bool => fact (z = true → Go.Sort.SortedIn (ltc c) a.toNat b.toNat l.toArray) (bool z)) (cellsRes true b0 42 ((l.map rowF).flatten ++ sp.map is)) (fun _ => cellsRes true b0 42 ((l.map rowF).flatten ++ sp.map is)) := by
 refine FunM.of Tryz.func147 rfl rfl (by exact Nat.le_of_ble_eq_true rfl) fun M0 w0 S rs M1 w1 => ?_
 refine Tr.seq (Tr.reg0 ?_)
 refine Ch.as rfl rfl rfl rfl rfl ?_
 refine Ch.nil (Fin.go (Tr.seq (Tr.reg0 ?_)))
 refine Ch.mv rfl rfl rfl rfl rfl ?_
 first
  | (refine Ch.oo rfl rfl rfl (ok_add rfl (vl rfl) (vl rfl) ?hin) ?_; case hin => unfold InI; omega)
  | refine Ch.oo rfl rfl rfl (ok_int rfl (vl rfl) (vl rfl) rfl) ?_
 refine Ch.as rfl rfl rfl rfl rfl ?_
 refine Ch.nil (Fin.go (Tr.seq (Tr.seq (Tr.reg0 ?_))))
 refine Ch.as rfl rfl rfl rfl rfl ?_
 refine Ch.nil (Fin.go (Tr.block ?_))
 refine Tr.loopD2V0 [(0, _), (1, _), (2, _), (3, _)] ⟨ke rfl, ke rfl, ke rfl, ke rfl, trivial⟩ (fun (i : Int) (j : Int) => [(9, int i), (10, int j)]) (fun (i : Int) (j : Int) => Hp M0 w0 S (cellsRes true b0 42 ((l.map rowF).flatten ++ sp.map is) :: extRes M1 w1 :: rs)) (fun (i : Int) (j : Int) => (j = 0 ∧ a < i ∧ i ≤ b) ∧ Adj c a i l) (fun (i : Int) (j : Int) => (5 - j).toNat) (a + 1) (0)  (⟨⟨rfl, by omega, by omega⟩, Adj.start a l h0⟩) ⟨ke rfl, ke rfl, trivial⟩ (fun _ _ h => h) ?_
 rintro i j  ⟨⟨hj0, hi1, hi2⟩, hadj⟩
 refine Tr.seq (Tr.seq (Tr.reg0 ?_))
 refine Ch.mv rfl rfl rfl rfl rfl ?_
 refine Ch.oo rfl rfl rfl (ok_int rfl (vl rfl) (vl rfl) rfl) ?_
 refine Ch.nil (Fin.go ?_)
 refine Tr.cn rfl (fun h1 q1 => ?_) (fun h1 q1 => ?_)
 ·
  skip
  refine Tr.skip (Fin.go (Tr.seq (Tr.block (Tr.seq (Tr.block ?_)))))
  refine Tr.loopw [(0, _), (1, _), (2, _), (3, _), (10, _)] ⟨ke rfl, ke rfl, ke rfl, ke rfl, ke rfl, trivial⟩ (fun i2 : Int => [(9, int i2)]) (fun i2 : Int => (a < i2 ∧ i2 ≤ b) ∧ Adj c a i2 l) (fun i2 : Int => (b - i2).toNat) i (⟨⟨hi1, hi2⟩, hadj⟩) ⟨ke rfl, trivial⟩ ?_
  rintro i2 ⟨⟨hi3, hi4⟩, hadj2⟩
  refine Tr.seq (Tr.seq ?_)
  refine Tr.reg1 mixed (by kernel_rfl) ?_
  refine Ch.mv rfl rfl rfl rfl rfl ?_
  refine Ch.mv rfl rfl rfl rfl rfl ?_
  refine Ch.oo rfl rfl rfl (ok_int rfl (vl rfl) (vl rfl) rfl) ?_
  refine Ch.mv rfl rfl rfl rfl rfl ?_
  refine Ch.cs 22 rfl (fun h2 q2 => ?_) (fun h2 q2 => ?_)
  ·
   iterate 3 refine Ch.ym h2 rfl rfl rfl rfl rfl rfl rfl ?_
   refine Ch.y h2 rfl rfl rfl rfl rfl (okp_indexSl rfl Tryz.underlying27 sz42 (vl rfl) (vl rfl) (by omega) (by omega)) ?_
   refine Ch.y h2 rfl rfl rfl rfl rfl (ok_rd 0 rfl (rd_loadA rfl agg42 sz42 (vl rfl) (cells_atG (f := rowF) (fun _ => rfl) (by omega)) rfl)) ?_
   refine Ch.ym h2 rfl rfl rfl rfl rfl rfl rfl ?_
   refine Ch.ym h2 rfl rfl rfl rfl rfl rfl rfl ?_
   first
    | (refine Ch.y h2 rfl rfl rfl rfl rfl (ok_sub rfl (vl rfl) (vl rfl) ?hin) ?_; case hin => unfold InI; omega)
    | refine Ch.y h2 rfl rfl rfl rfl rfl (ok_int rfl (vl rfl) (vl rfl) rfl) ?_
   refine Ch.y h2 rfl rfl rfl rfl rfl (okp_indexSl rfl Tryz.underlying27 sz42 (vl rfl) (vl rfl) (by omega) (by omega)) ?_
   refine Ch.y h2 rfl rfl rfl rfl rfl (ok_rd 0 rfl (rd_loadA rfl agg42 sz42 (vl rfl) (cells_atG (f := rowF) (fun _ => rfl) (by omega)) rfl)) ?_
   refine Ch.y h2 rfl rfl rfl rfl rfl (ok_callc (_, _) rfl (vl rfl) ⟨ke rfl, ke rfl, trivial⟩) ?_
   refine Ch.y h2 rfl rfl rfl rfl rfl (ok_int rfl (vl rfl) (vl rfl) rfl) ?_
   refine Ch.y h2 rfl rfl rfl rfl rfl (ok_not rfl (vl rfl)) ?_
   refine Ch.oo rfl rfl rfl (ok_pick_t rfl (vl rfl) h2 (vl rfl)) ?_
   refine Ch.nil (Fin.go ?_)
   refine Tr.w7 0 1 2 3 9 10 36 rfl rfl rfl rfl rfl rfl rfl ?_
   refine Tr.cn rfl (fun h3 q3 => ?_) (fun h3 q3 => ?_)
   ·
    have := h3
    refine Tr.skip (Fin.go (Tr.block (Tr.reg0 ?_)))
    refine Ch.mv rfl rfl rfl rfl rfl ?_
    first
     | (refine Ch.oo rfl rfl rfl (ok_add rfl (vl rfl) (vl rfl) ?hin) ?_; case hin => unfold InI; omega)
     | refine Ch.oo rfl rfl rfl (ok_int rfl (vl rfl) (vl rfl) rfl) ?_
    refine Ch.as rfl rfl rfl rfl rfl ?_
    refine Ch.nil (Fin.block ?_)
    exact Fin.fam_same (i2 + 1) ⟨⟨⟨by omega, by omega⟩, hadj2.go h0 (by omega) rfl (by omega) (by omega) (by assumption)⟩, by omega⟩ ⟨ke rfl, ke rfl, ke rfl, ke rfl, ke rfl, ke rfl, trivial⟩
   ·
    have := h3
    refine Tr.exit ?_
    refine Fin.then_exit ?_
    refine Fin.then_exit ?_
    refine Fin.block_here ?_
    refine Fin.go (Tr.seq (Tr.seq (Tr.reg0 ?_)))
    refine Ch.mv rfl rfl rfl rfl rfl ?_
    refine Ch.mv rfl rfl rfl rfl rfl ?_
    refine Ch.oo rfl rfl rfl (ok_int rfl (vl rfl) (vl rfl) rfl) ?_
    refine Ch.nil (Fin.go ?_)
    refine Tr.cn rfl (fun h4 q4 => ?_) (fun h4 q4 => ?_)
    ·
     refine Tr.seq (Tr.reg0 ?_)
     refine Ch.as rfl rfl rfl rfl rfl ?_
     refine Ch.nil (Fin.go (Tr.ret ?_))
     refine Fin.then_ret ?_
     refine Fin.block_ret ?_
     refine Fin.then_ret ?_
     refine Fin.then_ret ?_
     refine Fin.block_ret ?_
     refine Fin.then_ret ?_
     refine Fin.retM1 rfl rfl ?_ (fun _ _ _ _ => rfl)
     · first | exact ex_in true (fact_in (fun _ => by rw [show b = i2 by omega]; exact hadj2.sorted hw) (Pr.le_refl _)) | exact ex_in false (fact_in (fun h => nomatch h) (Pr.le_refl _))
    ·
     refine Tr.skip (Fin.go (Tr.seq (Tr.seq (Tr.reg0 ?_))))
     refine Ch.mv rfl rfl rfl rfl rfl ?_
     refine Ch.mv rfl rfl rfl rfl rfl ?_
     first
      | (refine Ch.oo rfl rfl rfl (ok_sub rfl (vl rfl) (vl rfl) ?hin) ?_; case hin => unfold InI; omega)
      | refine Ch.oo rfl rfl rfl (ok_int rfl (vl rfl) (vl rfl) rfl) ?_
     refine Ch.oo rfl rfl rfl (ok_int rfl (vl rfl) (vl rfl) rfl) ?_
     refine Ch.nil (Fin.go ?_)
     refine Tr.w7 0 1 2 3 9 10 45 rfl rfl rfl rfl rfl rfl rfl ?_
     refine Tr.cn rfl (fun h5 q5 => ?_) (fun h5 q5 => ?_)
     ·
      refine Tr.seq (Tr.reg0 ?_)
      refine Ch.as rfl rfl rfl rfl rfl ?_
      refine Ch.nil (Fin.go (Tr.ret ?_))
      refine Fin.then_ret ?_
      refine Fin.block_ret ?_
      refine Fin.then_ret ?_
      refine Fin.then_ret ?_
      refine Fin.block_ret ?_
      refine Fin.then_ret ?_
      refine Fin.retM1 rfl rfl ?_ (fun _ _ _ _ => rfl)
      · first | exact ex_in true (fact_in (fun _ => by rw [show b = i2 by omega]; exact hadj2.sorted hw) (Pr.le_refl _)) | exact ex_in false (fact_in (fun h => nomatch h) (Pr.le_refl _))
     ·
      exfalso; omega
  ·
   iterate 13 refine Ch.nt h2 rfl rfl rfl rfl rfl ?_
   refine Ch.oo rfl rfl rfl (ok_pick_f rfl (vl rfl) h2 (vl rfl)) ?_
   refine Ch.nil (Fin.go ?_)
   refine Tr.w7 0 1 2 3 9 10 36 rfl rfl rfl rfl rfl rfl rfl ?_
   refine Tr.cond rfl (fun h => nomatch h) (fun _ => ?_)
   refine Tr.exit ?_
   refine Fin.then_exit ?_
   refine Fin.then_exit ?_
   refine Fin.block_here ?_
   refine Fin.go (Tr.seq (Tr.seq (Tr.reg0 ?_)))
   refine Ch.mv rfl rfl rfl rfl rfl ?_
   refine Ch.mv rfl rfl rfl rfl rfl ?_
   refine Ch.oo rfl rfl rfl (ok_int rfl (vl rfl) (vl rfl) rfl) ?_
   refine Ch.nil (Fin.go ?_)
   refine Tr.cn rfl (fun h6 q6 => ?_) (fun h6 q6 => ?_)
   ·
    refine Tr.seq (Tr.reg0 ?_)
    refine Ch.as rfl rfl rfl rfl rfl ?_
    refine Ch.nil (Fin.go (Tr.ret ?_))
    refine Fin.then_ret ?_
    refine Fin.block_ret ?_
    refine Fin.then_ret ?_
    refine Fin.then_ret ?_
    refine Fin.block_ret ?_
    refine Fin.then_ret ?_
    refine Fin.retM1 rfl rfl ?_ (fun _ _ _ _ => rfl)
    · first | exact ex_in true (fact_in (fun _ => by rw [show b = i2 by omega]; exact hadj2.sorted hw) (Pr.le_refl _)) | exact ex_in false (fact_in (fun h => nomatch h) (Pr.le_refl _))
   ·
    refine Tr.skip (Fin.go (Tr.seq (Tr.seq (Tr.reg0 ?_))))
    refine Ch.mv rfl rfl rfl rfl rfl ?_
    refine Ch.mv rfl rfl rfl rfl rfl ?_
    first
     | (refine Ch.oo rfl rfl rfl (ok_sub rfl (vl rfl) (vl rfl) ?hin) ?_; case hin => unfold InI; omega)
     | refine Ch.oo rfl rfl rfl (ok_int rfl (vl rfl) (vl rfl) rfl) ?_
    refine Ch.oo rfl rfl rfl (ok_int rfl (vl rfl) (vl rfl) rfl) ?_
    refine Ch.nil (Fin.go ?_)
    refine Tr.w7 0 1 2 3 9 10 45 rfl rfl rfl rfl rfl rfl rfl ?_
    refine Tr.cn rfl (fun h7 q7 => ?_) (fun h7 q7 => ?_)
    ·
     refine Tr.seq (Tr.reg0 ?_)
     refine Ch.as rfl rfl rfl rfl rfl ?_
     refine Ch.nil (Fin.go (Tr.ret ?_))
     refine Fin.then_ret ?_
     refine Fin.block_ret ?_
     refine Fin.then_ret ?_
     refine Fin.then_ret ?_
     refine Fin.block_ret ?_
     refine Fin.then_ret ?_
     refine Fin.retM1 rfl rfl ?_ (fun _ _ _ _ => rfl)
     · first | exact ex_in true (fact_in (fun _ => by rw [show b = i2 by omega]; exact hadj2.sorted hw) (Pr.le_refl _)) | exact ex_in false (fact_in (fun h => nomatch h) (Pr.le_refl _))
    ·
     exfalso; omega
 ·
  have hj5 : ¬ j < 5 := of_decide_eq_false h1
  exfalso; omega
set_option maxRecDepth 20000 in
theorem w_sord2G {sb : Nat} {l : List Fnd} {c : Fnd × Fnd → Int} {b0 cap len : Nat} {sp : List Value} {a b : Int} (hln : l.length = len) (hll : len ≤ 1000000) (h0 : 0 ≤ a) (ha : a < len) (h1 : 0 ≤ b) (hb : b < len) : FunR Tryz.prog 168 [is (.slice (some ⟨b0, 0, none⟩) len cap), int a, int b, is (.pointer (some ⟨sb, 0, none⟩)), clo Tryz.prog (fun x : Fnd × Fnd => [agg (rowF x.1), agg (rowF x.2)]) (fun x => int (c x))] (ex fun z : Int × Int => fact ((z.1 = a ∧ z.2 = b) ∨ (z.1 = b ∧ z.2 = a)) (tup [int z.1, int z.2])) (cellsRes true sb 3 [anyK .i64]) (cellsRes true sb 3 [anyK .i64]) (cellsRes true b0 42 ((l.map rowF).flatten ++ sp.map is)) := by
 refine FunR.of Tryz.func168 rfl rfl (by exact Nat.le_of_ble_eq_true rfl) fun M0 w0 S rs M1 w1 => ?_
 refine Tr.seq (Tr.reg0 ?_)
 refine Ch.as rfl rfl rfl rfl rfl ?_
 refine Ch.as rfl rfl rfl rfl rfl ?_
 refine Ch.nil (Fin.go (Tr.seq (Tr.seq ?_)))
 refine Tr.reg1 mixed (by kernel_rfl) ?_
 iterate 3 refine Ch.mv rfl rfl rfl rfl rfl ?_
 refine Ch.oo rfl rfl rfl (okp_indexSl rfl Tryz.underlying27 sz42 (vl rfl) (vl rfl) (by omega) (by omega)) ?_
 refine Ch.oo rfl rfl rfl (ok_rd 2 rfl (rd_loadA rfl agg42 sz42 (vl rfl) (cells_atG (f := rowF) (fun _ => rfl) (by omega)) rfl)) ?_
 refine Ch.mv rfl rfl rfl rfl rfl ?_
 refine Ch.mv rfl rfl rfl rfl rfl ?_
 refine Ch.oo rfl rfl rfl (okp_indexSl rfl Tryz.underlying27 sz42 (vl rfl) (vl rfl) (by omega) (by omega)) ?_
 refine Ch.oo rfl rfl rfl (ok_rd 2 rfl (rd_loadA rfl agg42 sz42 (vl rfl) (cells_atG (f := rowF) (fun _ => rfl) (by omega)) rfl)) ?_
 refine Ch.oo rfl rfl rfl (ok_callc (_, _) rfl (vl rfl) ⟨ke rfl, ke rfl, trivial⟩) ?_
 refine Ch.oo rfl rfl rfl (ok_int rfl (vl rfl) (vl rfl) rfl) ?_
 refine Ch.nil (Fin.go ?_)
 refine Tr.cn rfl (fun h1 q1 => ?_) (fun h1 q1 => ?_)
 ·
  refine Tr.seq (Tr.regT ?_)
  refine TO.mv rfl rfl rfl rfl rfl ?_
  refine TO.oo rfl rfl rfl (okp_nilCheck rfl (vl rfl)) ?_
  refine TO.rd 0 rfl rfl rfl (by decide) (rd_load1 rfl one3 (vl rfl) rfl) ?_
  refine TO.oo rfl rfl rfl (ok_addK rfl (vl rfl) (VL.le (vl rfl) (is_anyK _ _))) ?_
  refine TO.oo rfl rfl rfl (okp_nilCheck rfl (vl rfl)) ?_
  refine TO.store_all 0 rfl rfl rfl (vl rfl) (VL.le (vl rfl) (one_cellsP _)) rfl sz3 rfl rfl ?_
  refine TO.nil (Fin.go ?_)
  refine Tr.w2 1 2 rfl rfl ?_
  refine Tr.seq (Tr.reg0 ?_)
  refine Ch.mv rfl rfl rfl rfl rfl ?_
  refine Ch.mv rfl rfl rfl rfl rfl ?_
  refine Ch.as rfl rfl rfl rfl rfl ?_
  refine Ch.as rfl rfl rfl rfl rfl ?_
  refine Ch.nil (Fin.go (Tr.ret ?_))
  refine Fin.then_ret ?_
  refine Fin.retY2 [] rfl (RVal.tmp rfl (Pr.le_refl _)) (RVal.tmp rfl (Pr.le_refl _)) ?_
  · exact ex_in (b, a) (fact_in (.inr ⟨rfl, rfl⟩) (Pr.le_refl _))
 ·
  refine Tr.skip (Fin.go (Tr.seq (Tr.reg0 ?_)))
  refine Ch.mv rfl rfl rfl rfl rfl ?_
  refine Ch.mv rfl rfl rfl rfl rfl ?_
  refine Ch.as rfl rfl rfl rfl rfl ?_
  refine Ch.as rfl rfl rfl rfl rfl ?_
  refine Ch.nil (Fin.go ?_)
  refine Tr.w2 10 11 rfl rfl ?_
  refine Tr.ret ?_
  refine Fin.retY2 [] rfl (RVal.tmp rfl (Pr.le_refl _)) (RVal.tmp rfl (Pr.le_refl _)) ?_
  · exact ex_in (a, b) (fact_in (.inl ⟨rfl, rfl⟩) (Pr.le_refl _))
set_option maxRecDepth 20000 in
theorem w_smedG {sb : Nat} {l : List Fnd} {c : Fnd × Fnd → Int} {b0 cap len : Nat} {sp : List Value} {a b d : Int} (hln : l.length = len) (hll : len ≤ 1000000) (h0 : 0 ≤ a) (ha : a < len) (h1 : 0 ≤ b) (hb : b < len) (h2 : 0 ≤ d) (hd : d < len) : FunR Tryz.prog 162 [is (.slice (some ⟨b0, 0, none⟩) len cap), int a, int b, int d, is (.pointer (some ⟨sb, 0, none⟩)), clo Tryz.prog (fun x : Fnd × Fnd => [agg (rowF x.1), agg (rowF x.2)]) (fun x => int (c x))] (ex fun z : Int => fact (z = a ∨ z = b ∨ z = d) (int z)) (cellsRes true sb 3 [anyK .i64]) (cellsRes true sb 3 [anyK .i64]) (cellsRes true b0 42 ((l.map rowF).flatten ++ sp.map is)) := by
 refine FunR.of Tryz.func162 rfl rfl (by exact Nat.le_of_ble_eq_true rfl) fun M0 w0 S rs M1 w1 => ?_
 refine Tr.seq (Tr.reg0 ?_)
 refine Ch.as rfl rfl rfl rfl rfl ?_
 refine Ch.nil (Fin.go (Tr.seq (Tr.regT ?_)))
 iterate 5 refine TO.mv rfl rfl rfl rfl rfl ?_
 refine TO.callR 0 2 rfl rfl (by decide) rfl rfl (by decide) rfl (w_sord2G (by omega) (by omega) (by omega) (by omega) (by omega) (by omega)) ⟨ke rfl, ke rfl, ke rfl, ke rfl, ke rfl, trivial⟩ ?_
 refine TO.ex 19 rfl (fun z1 => TO.fact 19 rfl fun hz1 => ?_)
 refine TO.mv rfl rfl rfl rfl rfl ?_
 refine TO.oo rfl rfl rfl (ok_extract rfl (vl rfl) rfl) ?_
 refine TO.oo rfl rfl rfl (ok_extract rfl (vl rfl) rfl) ?_
 refine TO.as rfl rfl rfl rfl rfl ?_
 refine TO.as rfl rfl rfl rfl rfl ?_
 refine TO.nil (Fin.go (Tr.seq (Tr.regT ?_)))
 iterate 5 refine TO.mv rfl rfl rfl rfl rfl ?_
 refine TO.callR 0 2 rfl rfl (by decide) rfl rfl (by decide) rfl (w_sord2G (by omega) (by omega) (by omega) (by omega) (by omega) (by omega)) ⟨ke rfl, ke rfl, ke rfl, ke rfl, ke rfl, trivial⟩ ?_
 refine TO.ex 28 rfl (fun z2 => TO.fact 28 rfl fun hz2 => ?_)
 refine TO.mv rfl rfl rfl rfl rfl ?_
 refine TO.oo rfl rfl rfl (ok_extract rfl (vl rfl) rfl) ?_
 refine TO.oo rfl rfl rfl (ok_extract rfl (vl rfl) rfl) ?_
 refine TO.as rfl rfl rfl rfl rfl ?_
 refine TO.as rfl rfl rfl rfl rfl ?_
 refine TO.nil (Fin.go ?_)
 refine Tr.w5 0 1 2 4 5 rfl rfl rfl rfl rfl ?_
 refine Tr.seq (Tr.regT ?_)
 iterate 5 refine TO.mv rfl rfl rfl rfl rfl ?_
 refine TO.callR 0 2 rfl rfl (by decide) rfl rfl (by decide) rfl (w_sord2G (by omega) (by omega) (by omega) (by omega) (by omega) (by omega)) ⟨ke rfl, ke rfl, ke rfl, ke rfl, ke rfl, trivial⟩ ?_
 refine TO.ex 37 rfl (fun z3 => TO.fact 37 rfl fun hz3 => ?_)
 refine TO.mv rfl rfl rfl rfl rfl ?_
 refine TO.oo rfl rfl rfl (ok_extract rfl (vl rfl) rfl) ?_
 refine TO.oo rfl rfl rfl (ok_extract rfl (vl rfl) rfl) ?_
 refine TO.as rfl rfl rfl rfl rfl ?_
 refine TO.as rfl rfl rfl rfl rfl ?_
 refine TO.nil (Fin.go ?_)
 refine Tr.w1 2 rfl ?_
 refine Tr.seq (Tr.reg0 ?_)
 refine Ch.mv rfl rfl rfl rfl rfl ?_
 refine Ch.as rfl rfl rfl rfl rfl ?_
 refine Ch.nil (Fin.go (Tr.ret ?_))
 refine Fin.retM1 rfl rfl ?_ (fun _ _ _ _ => rfl)
 · exact ex_in _ (fact_in (by omega) (Pr.le_refl _))
set_option maxRecDepth 20000 in
theorem w_spivG {l : List Fnd} {c : Fnd × Fnd → Int} {b0 cap len : Nat} {sp : List Value} {a b : Int} (hln : l.length = len) (hll : len ≤ 1000000) (h0 : 0 ≤ a) (hab : a < b) (hb : b ≤ len) (hb5 : b < 50) : FunM Tryz.prog 145 [is (.slice (some ⟨b0, 0, none⟩) len cap), int a, int b, clo Tryz.prog (fun x : Fnd × Fnd => [agg (rowF x.1), agg (rowF x.2)]) (fun x => int (c x))] (ex fun z : Int × Int => fact (a ≤ z.1 ∧ z.1 < b) (tup [int z.1, int z.2])) (cellsRes true b0 42 ((l.map rowF).flatten ++ sp.map is)) (fun _ => cellsRes true b0 42 ((l.map rowF).flatten ++ sp.map is)) := by
 refine FunM.of Tryz.func145 rfl rfl (by exact Nat.le_of_ble_eq_true rfl) fun M0 w0 S rs M1 w1 => ?_
 have hq := quart (n := b - a) (by omega) (by omega)
 obtain ⟨hq1, hq2, hq3⟩ := hq
 refine Tr.seq (Tr.reg0 ?_)
 refine Ch.as rfl rfl rfl rfl rfl ?_
 refine Ch.as rfl rfl rfl rfl rfl ?_
 refine Ch.nil (Fin.go (Tr.seq (Tr.reg0 ?_)))
 refine Ch.mv rfl rfl rfl rfl rfl ?_
 refine Ch.mv rfl rfl rfl rfl rfl ?_
 first
  | (refine Ch.oo rfl rfl rfl (ok_sub rfl (vl rfl) (vl rfl) ?hin) ?_; case hin => unfold InI; omega)
  | refine Ch.oo rfl rfl rfl (ok_int rfl (vl rfl) (vl rfl) rfl) ?_
 refine Ch.as rfl rfl rfl rfl rfl ?_
 refine Ch.nil (Fin.go (Tr.seq (Tr.regT ?_)))
 refine TO.alloc rfl rfl (by decide) rfl z3 zo3 (fun b1 => ?_)
 refine TO.nil (Fin.go (Tr.seq (Tr.reg0 ?_)))
 refine Ch.mv rfl rfl rfl rfl rfl ?_
 refine Ch.mv rfl rfl rfl rfl rfl ?_
 refine Ch.oo rfl rfl rfl (ok_quo rfl (vl rfl) (vl rfl) (by omega)) ?_
 first
  | (refine Ch.oo rfl rfl rfl (ok_mul rfl (vl rfl) (vl rfl) ?hin) ?_; case hin => unfold InI; omega)
  | refine Ch.oo rfl rfl rfl (ok_int rfl (vl rfl) (vl rfl) rfl) ?_
 first
  | (refine Ch.oo rfl rfl rfl (ok_add rfl (vl rfl) (vl rfl) ?hin) ?_; case hin => unfold InI; omega)
  | refine Ch.oo rfl rfl rfl (ok_int rfl (vl rfl) (vl rfl) rfl) ?_
 refine Ch.as rfl rfl rfl rfl rfl ?_
 refine Ch.nil (Fin.go ?_)
 refine Tr.w6 0 1 3 10 11 12 rfl rfl rfl rfl rfl rfl ?_
 refine Tr.seq (Tr.reg0 ?_)
 refine Ch.mv rfl rfl rfl rfl rfl ?_
 refine Ch.mv rfl rfl rfl rfl rfl ?_
 refine Ch.oo rfl rfl rfl (ok_quo rfl (vl rfl) (vl rfl) (by omega)) ?_
 first
  | (refine Ch.oo rfl rfl rfl (ok_mul rfl (vl rfl) (vl rfl) ?hin) ?_; case hin => unfold InI; omega)
  | refine Ch.oo rfl rfl rfl (ok_int rfl (vl rfl) (vl rfl) rfl) ?_
 first
  | (refine Ch.oo rfl rfl rfl (ok_add rfl (vl rfl) (vl rfl) ?hin) ?_; case hin => unfold InI; omega)
  | refine Ch.oo rfl rfl rfl (ok_int rfl (vl rfl) (vl rfl) rfl) ?_
 refine Ch.as rfl rfl rfl rfl rfl ?_
 refine Ch.nil (Fin.go (Tr.seq (Tr.reg0 ?_)))
 refine Ch.mv rfl rfl rfl rfl rfl ?_
 refine Ch.mv rfl rfl rfl rfl rfl ?_
 refine Ch.oo rfl rfl rfl (ok_quo rfl (vl rfl) (vl rfl) (by omega)) ?_
 first
  | (refine Ch.oo rfl rfl rfl (ok_mul rfl (vl rfl) (vl rfl) ?hin) ?_; case hin => unfold InI; omega)
  | refine Ch.oo rfl rfl rfl (ok_int rfl (vl rfl) (vl rfl) rfl) ?_
 first
  | (refine Ch.oo rfl rfl rfl (ok_add rfl (vl rfl) (vl rfl) ?hin) ?_; case hin => unfold InI; omega)
  | refine Ch.oo rfl rfl rfl (ok_int rfl (vl rfl) (vl rfl) rfl) ?_
 refine Ch.as rfl rfl rfl rfl rfl ?_
 refine Ch.nil (Fin.go ?_)
 refine Tr.w7 0 3 10 11 12 13 14 rfl rfl rfl rfl rfl rfl rfl ?_
 refine Tr.seq (Tr.seq (Tr.reg0 ?_))
 refine Ch.mv rfl rfl rfl rfl rfl ?_
 refine Ch.oo rfl rfl rfl (ok_int rfl (vl rfl) (vl rfl) rfl) ?_
 refine Ch.nil (Fin.go ?_)
 refine Tr.cn rfl (fun h1 q1 => ?_) (fun h1 q1 => ?_)
 ·
  refine Tr.seq (Tr.seq (Tr.reg0 ?_))
  refine Ch.mv rfl rfl rfl rfl rfl ?_
  refine Ch.oo rfl rfl rfl (ok_int rfl (vl rfl) (vl rfl) rfl) ?_
  refine Ch.nil (Fin.go ?_)
  refine Tr.cn rfl (fun h2 q2 => ?_) (fun h2 q2 => ?_)
  ·
   exfalso; omega
  ·
   refine Tr.skip (Fin.go ?_)
   refine Tr.leC 0 [anyK .i64] rfl ⟨is_anyK _ _, trivial⟩ ?_
   refine Tr.regT ?_
   iterate 5 refine TO.mv rfl rfl rfl rfl rfl ?_
   refine TO.callR 0 1 rfl rfl (by decide) rfl rfl (by decide) rfl (w_smedG (by omega) (by omega) (by omega) (by omega) (by omega) (by omega) (by omega) (by omega)) ⟨ke rfl, ke rfl, ke rfl, ke rfl, ke rfl, ke rfl, trivial⟩ ?_
   refine TO.ex 54 rfl (fun z1 => TO.fact 54 rfl fun hz1 => ?_)
   refine TO.as rfl rfl rfl rfl rfl ?_
   refine TO.nil (Fin.go ?_)
   refine Tr.w2 11 13 rfl rfl ?_
   refine Tr.seq (Tr.reg0 ?_)
   refine Ch.oo rfl rfl rfl (ok_rd 0 rfl (rd_load1 rfl one3 (vl rfl) rfl)) ?_
   refine Ch.nil (Fin.go ?_)
   refine Tr.drop 0 ?_
   refine Tr.block (Tr.seq ?_)
   refine Tr.ex 55 rfl fun sw => ?_
   refine Tr.reg0 ?_
   refine Ch.oo rfl rfl rfl (ok_int rfl (vl rfl) (vl rfl) rfl) ?_
   refine Ch.as rfl rfl rfl rfl rfl ?_
   refine Ch.nil (Fin.go ?_)
   refine Tr.cn rfl (fun h3 q3 => ?_) (fun h3 q3 => ?_)
   ·
    refine Tr.seq (Tr.reg0 ?_)
    refine Ch.mv rfl rfl rfl rfl rfl ?_
    refine Ch.as rfl rfl rfl rfl rfl ?_
    refine Ch.as rfl rfl rfl rfl rfl ?_
    refine Ch.nil (Fin.go (Tr.ret ?_))
    refine Fin.block_ret ?_
    refine Fin.retY2 [] rfl (RVal.tmp rfl (Pr.le_refl _)) (RVal.tmp rfl (Pr.le_refl _)) ?_
    · exact ex_in (_, _) (fact_in ⟨by omega, by omega⟩ (Pr.le_refl _))
   ·
    refine Tr.seq (Tr.reg0 ?_)
    refine Ch.oo rfl rfl rfl (ok_int rfl (vl rfl) (vl rfl) rfl) ?_
    refine Ch.as rfl rfl rfl rfl rfl ?_
    refine Ch.nil (Fin.go ?_)
    refine Tr.cn rfl (fun h4 q4 => ?_) (fun h4 q4 => ?_)
    ·
     refine Tr.seq (Tr.reg0 ?_)
     refine Ch.mv rfl rfl rfl rfl rfl ?_
     refine Ch.as rfl rfl rfl rfl rfl ?_
     refine Ch.as rfl rfl rfl rfl rfl ?_
     refine Ch.nil (Fin.go (Tr.ret ?_))
     refine Fin.block_ret ?_
     refine Fin.retY2 [] rfl (RVal.tmp rfl (Pr.le_refl _)) (RVal.tmp rfl (Pr.le_refl _)) ?_
     · exact ex_in (_, _) (fact_in ⟨by omega, by omega⟩ (Pr.le_refl _))
    ·
     refine Tr.seq (Tr.reg0 ?_)
     refine Ch.mv rfl rfl rfl rfl rfl ?_
     refine Ch.as rfl rfl rfl rfl rfl ?_
     refine Ch.as rfl rfl rfl rfl rfl ?_
     refine Ch.nil (Fin.go (Tr.ret ?_))
     refine Fin.block_ret ?_
     refine Fin.retY2 [] rfl (RVal.tmp rfl (Pr.le_refl _)) (RVal.tmp rfl (Pr.le_refl _)) ?_
     · exact ex_in (_, _) (fact_in ⟨by omega, by omega⟩ (Pr.le_refl _))
 ·
  refine Tr.skip (Fin.go (Tr.seq ?_))
  refine Tr.leC 0 [anyK .i64] rfl ⟨is_anyK _ _, trivial⟩ ?_
  refine Tr.reg0 ?_
  refine Ch.oo rfl rfl rfl (ok_rd 0 rfl (rd_load1 rfl one3 (vl rfl) rfl)) ?_
  refine Ch.nil (Fin.go ?_)
  refine Tr.drop 0 ?_
  refine Tr.block (Tr.seq ?_)
  refine Tr.ex 55 rfl fun sw => ?_
  refine Tr.reg0 ?_
  refine Ch.oo rfl rfl rfl (ok_int rfl (vl rfl) (vl rfl) rfl) ?_
  refine Ch.as rfl rfl rfl rfl rfl ?_
  refine Ch.nil (Fin.go ?_)
  refine Tr.cn rfl (fun h5 q5 => ?_) (fun h5 q5 => ?_)
  ·
   refine Tr.seq (Tr.reg0 ?_)
   refine Ch.mv rfl rfl rfl rfl rfl ?_
   refine Ch.as rfl rfl rfl rfl rfl ?_
   refine Ch.as rfl rfl rfl rfl rfl ?_
   refine Ch.nil (Fin.go ?_)
   refine Tr.w2 8 9 rfl rfl ?_
   refine Tr.ret ?_
   refine Fin.block_ret ?_
   refine Fin.retY2 [] rfl (RVal.tmp rfl (Pr.le_refl _)) (RVal.tmp rfl (Pr.le_refl _)) ?_
   · exact ex_in (_, _) (fact_in ⟨by omega, by omega⟩ (Pr.le_refl _))
  ·
   refine Tr.seq (Tr.reg0 ?_)
   refine Ch.oo rfl rfl rfl (ok_int rfl (vl rfl) (vl rfl) rfl) ?_
   refine Ch.as rfl rfl rfl rfl rfl ?_
   refine Ch.nil (Fin.go ?_)
   refine Tr.w2 13 60 rfl rfl ?_
   refine Tr.cn rfl (fun h6 q6 => ?_) (fun h6 q6 => ?_)
   ·
    refine Tr.seq (Tr.reg0 ?_)
    refine Ch.mv rfl rfl rfl rfl rfl ?_
    refine Ch.as rfl rfl rfl rfl rfl ?_
    refine Ch.as rfl rfl rfl rfl rfl ?_
    refine Ch.nil (Fin.go (Tr.ret ?_))
    refine Fin.block_ret ?_
    refine Fin.retY2 [] rfl (RVal.tmp rfl (Pr.le_refl _)) (RVal.tmp rfl (Pr.le_refl _)) ?_
    · exact ex_in (_, _) (fact_in ⟨by omega, by omega⟩ (Pr.le_refl _))
   ·
    refine Tr.seq (Tr.reg0 ?_)
    refine Ch.mv rfl rfl rfl rfl rfl ?_
    refine Ch.as rfl rfl rfl rfl rfl ?_
    refine Ch.as rfl rfl rfl rfl rfl ?_
    refine Ch.nil (Fin.go (Tr.ret ?_))
    refine Fin.block_ret ?_
    refine Fin.retY2 [] rfl (RVal.tmp rfl (Pr.le_refl _)) (RVal.tmp rfl (Pr.le_refl _)) ?_
    · exact ex_in (_, _) (fact_in ⟨by omega, by omega⟩ (Pr.le_refl _))
set_option maxRecDepth 20000 in
theorem w_sbrkG {l : List Fnd} {c : Fnd × Fnd → Int} {b0 cap len : Nat} {sp : List Value} {a b : Int} (hln : l.length = len) (hll : len ≤ 1000000) (h0 : 0 ≤ a) (hab : a ≤ b) (hb : b ≤ len) (hb5 : b < 50) : FunM Tryz.prog 144 [is (.slice (some ⟨b0, 0, none⟩) len cap), int a, int b, clo Tryz.prog (fun x : Fnd × Fnd => [agg (rowF x.1), agg (rowF x.2)]) (fun x => int (c x))] (unit_) (cellsRes true b0 42 ((l.map rowF).flatten ++ sp.map is)) (fun _ => relRes b0 42 rowF (PermL a b l) (sp.map is)) := by
 refine FunM.of Tryz.func144 rfl rfl (by exact Nat.le_of_ble_eq_true rfl) fun M0 w0 S rs M1 w1 => ?_
 have hq := quart (n := b - a) (by omega) (by omega)
 obtain ⟨hq1, hq2, hq3⟩ := hq
 refine Tr.seq (Tr.reg0 ?_)
 refine Ch.mv rfl rfl rfl rfl rfl ?_
 refine Ch.mv rfl rfl rfl rfl rfl ?_
 first
  | (refine Ch.oo rfl rfl rfl (ok_sub rfl (vl rfl) (vl rfl) ?hin) ?_; case hin => unfold InI; omega)
  | refine Ch.oo rfl rfl rfl (ok_int rfl (vl rfl) (vl rfl) rfl) ?_
 refine Ch.as rfl rfl rfl rfl rfl ?_
 refine Ch.nil (Fin.go (Tr.seq (Tr.reg0 ?_)))
 refine Ch.mv rfl rfl rfl rfl rfl ?_
 refine Ch.oo rfl rfl rfl (ok_int rfl (vl rfl) (vl rfl) rfl) ?_
 refine Ch.nil (Fin.go ?_)
 refine Tr.cn rfl (fun h1 q1 => ?_) (fun h1 q1 => ?_)
 ·
  refine Tr.seq (Tr.regT ?_)
  refine TO.mv rfl rfl rfl rfl rfl ?_
  first
   | refine TO.oo rfl rfl rfl (ok_convI rfl Tryz.underlying3 Tryz.underlying151 (vl rfl) (by unfold InI; omega)) ?_
   | refine TO.oo rfl rfl rfl (ok_conv rfl Tryz.underlying3 Tryz.underlying151 (vl rfl)) ?_
  refine TO.alloc rfl rfl (by decide) rfl z151 zo151 (fun b1 => ?_)
  refine TO.store_all 0 rfl rfl rfl (vl rfl) (VL.le (vl rfl) (one_cellsP _)) rfl sz151 rfl rfl ?_
  refine TO.nil (Fin.go (Tr.seq ?_))
  refine Tr.leC 0 [anyK .u64] rfl ⟨is_anyK _ _, trivial⟩ ?_
  refine Tr.regT ?_
  refine TO.mv rfl rfl rfl rfl rfl ?_
  refine TO.oo rfl rfl rfl (ok_call rfl (w_npow (by omega) (by omega)) ⟨ke rfl, trivial⟩) ?_
  refine TO.ex 21 rfl (fun md => TO.fact 21 rfl fun hmd => ?_)
  obtain ⟨hmd1, hmd2⟩ := hmd
  have hwm : IntKind.u64.wrap (md - 1) = md - 1 := IntWalk.u64_in _ ⟨by omega, by omega⟩
  refine TO.as rfl rfl rfl rfl rfl ?_
  refine TO.nil (Fin.go (Tr.seq (Tr.reg0 ?_)))
  refine Ch.mv rfl rfl rfl rfl rfl ?_
  refine Ch.mv rfl rfl rfl rfl rfl ?_
  refine Ch.oo rfl rfl rfl (ok_quo rfl (vl rfl) (vl rfl) (by omega)) ?_
  first
   | (refine Ch.oo rfl rfl rfl (ok_mul rfl (vl rfl) (vl rfl) ?hin) ?_; case hin => unfold InI; omega)
   | refine Ch.oo rfl rfl rfl (ok_int rfl (vl rfl) (vl rfl) rfl) ?_
  first
   | (refine Ch.oo rfl rfl rfl (ok_add rfl (vl rfl) (vl rfl) ?hin) ?_; case hin => unfold InI; omega)
   | refine Ch.oo rfl rfl rfl (ok_int rfl (vl rfl) (vl rfl) rfl) ?_
  first
   | (refine Ch.oo rfl rfl rfl (ok_sub rfl (vl rfl) (vl rfl) ?hin) ?_; case hin => unfold InI; omega)
   | refine Ch.oo rfl rfl rfl (ok_int rfl (vl rfl) (vl rfl) rfl) ?_
  refine Ch.as rfl rfl rfl rfl rfl ?_
  refine Ch.nil (Fin.go ?_)
  refine Tr.w6 0 1 8 9 10 11 rfl rfl rfl rfl rfl rfl ?_
  refine Tr.block ?_
  refine Tr.loopD2V0 [(0, _), (1, _), (8, _), (9, _), (10, _)] ⟨ke rfl, ke rfl, ke rfl, ke rfl, ke rfl, trivial⟩ (fun (i : Int) (st : List Fnd) => [(11, int i)]) (fun (i : Int) (st : List Fnd) => Hp M0 w0 S (cellsRes true b1 151 [anyK .u64] :: cellsRes true b0 42 ((st.map rowF).flatten ++ sp.map is) :: extRes M1 w1 :: rs)) (fun (i : Int) (st : List Fnd) => (a ≤ i ∧ i ≤ b) ∧ st.length = len ∧ PermL a b l st) (fun (i : Int) (st : List Fnd) => (b - i).toNat) (a + IntKind.i64.wrap ((b - a).tdiv 4) * 2 - 1) (l)  (⟨⟨by omega, by omega⟩, by omega, PermL.refl _ _ _⟩) ⟨ke rfl, trivial⟩ (fun _ _ h => h) ?_
  rintro i st  ⟨⟨hi1, hi2⟩, hsl, hso⟩
  refine Tr.seq (Tr.seq (Tr.reg0 ?_))
  iterate 3 refine Ch.mv rfl rfl rfl rfl rfl ?_
  refine Ch.oo rfl rfl rfl (ok_quo rfl (vl rfl) (vl rfl) (by omega)) ?_
  first
   | (refine Ch.oo rfl rfl rfl (ok_mul rfl (vl rfl) (vl rfl) ?hin) ?_; case hin => unfold InI; omega)
   | refine Ch.oo rfl rfl rfl (ok_int rfl (vl rfl) (vl rfl) rfl) ?_
  first
   | (refine Ch.oo rfl rfl rfl (ok_add rfl (vl rfl) (vl rfl) ?hin) ?_; case hin => unfold InI; omega)
   | refine Ch.oo rfl rfl rfl (ok_int rfl (vl rfl) (vl rfl) rfl) ?_
  first
   | (refine Ch.oo rfl rfl rfl (ok_add rfl (vl rfl) (vl rfl) ?hin) ?_; case hin => unfold InI; omega)
   | refine Ch.oo rfl rfl rfl (ok_int rfl (vl rfl) (vl rfl) rfl) ?_
  refine Ch.oo rfl rfl rfl (ok_int rfl (vl rfl) (vl rfl) rfl) ?_
  refine Ch.nil (Fin.go ?_)
  refine Tr.w7 0 1 8 9 10 11 35 rfl rfl rfl rfl rfl rfl rfl ?_
  refine Tr.cn rfl (fun h2 q2 => ?_) (fun h2 q2 => ?_)
  ·
   have := h2
   refine Tr.skip (Fin.go (Tr.seq (Tr.block (Tr.seq (Tr.regT ?_)))))
   refine TO.efc 0 rfl rfl (by decide) (ef_callc rfl rfl (by decide) rfl (w_xnext) ⟨ke rfl, trivial⟩) ?_
   refine TO.mv rfl rfl rfl rfl rfl ?_
   first
    | (refine TO.oo rfl rfl rfl (ok_sub rfl (vl rfl) (vl rfl) ?hin) ?_; case hin => unfold InI; omega)
    | refine TO.oo rfl rfl rfl (ok_int rfl (vl rfl) (vl rfl) rfl) ?_
   refine TO.oo rfl rfl rfl (ok_andle rfl (vl rfl) (vl rfl) (by omega) (by omega)) ?_
   
   refine TO.ex 41 rfl (fun z1 => TO.fact 41 rfl fun hz1 => ?_)
   first
    | refine TO.oo rfl rfl rfl (ok_convI rfl Tryz.underlying105 Tryz.underlying3 (vl rfl) (by unfold InI; omega)) ?_
    | refine TO.oo rfl rfl rfl (ok_conv rfl Tryz.underlying105 Tryz.underlying3 (vl rfl)) ?_
   refine TO.as rfl rfl rfl rfl rfl ?_
   refine TO.nil (Fin.go ?_)
   refine Tr.cutD1V0 [(0, _), (1, _), (8, _), (9, _), (10, _), (11, _)] ⟨ke rfl, ke rfl, ke rfl, ke rfl, ke rfl, ke rfl, trivial⟩ (fun (ot : Int) => [(12, int ot)]) (fun (ot : Int) => Hp M0 w0 S (cellsRes true b1 151 [anyK .u64] :: cellsRes true b0 42 ((st.map rowF).flatten ++ sp.map is) :: extRes M1 w1 :: rs)) (fun (ot : Int) => 0 ≤ ot ∧ ot < b - a) ?_ ?_
   ·
    refine Tr.seq (Tr.reg0 ?_)
    refine Ch.mv rfl rfl rfl rfl rfl ?_
    refine Ch.mv rfl rfl rfl rfl rfl ?_
    refine Ch.oo rfl rfl rfl (ok_int rfl (vl rfl) (vl rfl) rfl) ?_
    refine Ch.nil (Fin.go ?_)
    refine Tr.w8 0 1 8 9 10 11 12 45 rfl rfl rfl rfl rfl rfl rfl rfl ?_
    refine Tr.cn rfl (fun h3 q3 => ?_) (fun h3 q3 => ?_)
    ·
     refine Tr.reg0 ?_
     refine Ch.mv rfl rfl rfl rfl rfl ?_
     refine Ch.mv rfl rfl rfl rfl rfl ?_
     first
      | (refine Ch.oo rfl rfl rfl (ok_sub rfl (vl rfl) (vl rfl) ?hin) ?_; case hin => unfold InI; omega)
      | refine Ch.oo rfl rfl rfl (ok_int rfl (vl rfl) (vl rfl) rfl) ?_
     refine Ch.as rfl rfl rfl rfl rfl ?_
     refine Ch.nil ?_
     exact Fin.famD1V0 (_)  (⟨by omega, by omega⟩) ⟨ke rfl, ke rfl, ke rfl, ke rfl, ke rfl, ke rfl, ke rfl, trivial⟩ (fun _ _ h => h)
    ·
     refine Tr.skip ?_
     exact Fin.famD1V0 (_)  (⟨by omega, by omega⟩) ⟨ke rfl, ke rfl, ke rfl, ke rfl, ke rfl, ke rfl, ke rfl, trivial⟩ (fun _ _ h => h)
   ·
    rintro ot  ⟨hot1, hot2⟩
    refine Tr.regX mixed [none, none, none, none, none, none, none, none, none, none, none, some (0, 1, false, 0), none, none, none, some (0, 1, false, 0), none, some (0, 1, true, 0), none, some (0, 1, true, 0)] (by kernel_rfl) ?_
    iterate 5 refine Cx.mv rfl rfl rfl rfl rfl ?_
    first
     | (refine Cx.oo rfl rfl rfl (fun _ => ok_add rfl (vl rfl) (vl rfl) ?hin) ?_; case hin => unfold InI; omega)
     | refine Cx.oo rfl rfl rfl (fun _ => ok_int rfl (vl rfl) (vl rfl) rfl) ?_
    iterate 3 refine Cx.mv rfl rfl rfl rfl rfl ?_
    first
     | (refine Cx.oo rfl rfl rfl (fun _ => ok_add rfl (vl rfl) (vl rfl) ?hin) ?_; case hin => unfold InI; omega)
     | refine Cx.oo rfl rfl rfl (fun _ => ok_int rfl (vl rfl) (vl rfl) rfl) ?_
    refine Cx.oo rfl rfl rfl (fun _ => okp_indexSl rfl Tryz.underlying27 sz42 (vl rfl) (vl rfl) (by omega) (by omega)) ?_
    refine Cx.rd 1 rfl rfl rfl (by decide) (rd_loadA rfl agg42 sz42 (vl rfl) (cells_atG (f := rowF) (fun _ => rfl) (by omega)) rfl) ?_
    refine Cx.mv rfl rfl rfl rfl rfl ?_
    refine Cx.mv rfl rfl rfl rfl rfl ?_
    refine Cx.oo rfl rfl rfl (fun _ => okp_indexSl rfl Tryz.underlying27 sz42 (vl rfl) (vl rfl) (by omega) (by omega)) ?_
    refine Cx.rd 1 rfl rfl rfl (by decide) (rd_loadA rfl agg42 sz42 (vl rfl) (cells_atG (f := rowF) (fun _ => rfl) (by omega)) rfl) ?_
    refine Cx.oo rfl rfl rfl (fun _ => okp_indexSl rfl Tryz.underlying27 sz42 (vl rfl) (vl rfl) (by omega) (by omega)) ?_
    refine Cx.ef0 1 rfl rfl (ef_store rfl rfl (vl rfl) (VL.le (vl rfl) (agg_cellsP _)) sz42 rfl (by rw [cells_len (sz := 11) (fun _ => rfl)]; first | omega | (simp only [List.length_set]; omega)) (cells_setG (f := rowF) (fun _ => rfl) (by first | omega | (simp only [List.length_set]; omega)))) ?_
    refine Cx.oo rfl rfl rfl (fun _ => okp_indexSl rfl Tryz.underlying27 sz42 (vl rfl) (vl rfl) (by omega) (by omega)) ?_
    refine Cx.ef0 1 rfl rfl (ef_store rfl rfl (vl rfl) (VL.le (vl rfl) (agg_cellsP _)) sz42 rfl (by rw [cells_len (sz := 11) (fun _ => rfl)]; first | omega | (simp only [List.length_set]; omega)) (cells_setG (f := rowF) (fun _ => rfl) (by first | omega | (simp only [List.length_set]; omega)))) ?_
    refine Cx.nil ⟨rfl, ?_⟩
    refine FinX.done (AllC.cons (AllC.cons (AllC.cons (AllC.map _)))) ?_
    refine Fin.block (Fin.go ?_)
    refine Tr.w6 0 1 8 9 10 11 rfl rfl rfl rfl rfl rfl ?_
    refine Tr.reg0 ?_
    refine Ch.mv rfl rfl rfl rfl rfl ?_
    first
     | (refine Ch.oo rfl rfl rfl (ok_add rfl (vl rfl) (vl rfl) ?hin) ?_; case hin => unfold InI; omega)
     | refine Ch.oo rfl rfl rfl (ok_int rfl (vl rfl) (vl rfl) rfl) ?_
    refine Ch.as rfl rfl rfl rfl rfl ?_
    refine Ch.nil ?_
    exact Fin.famD2V0 (i + 1) (_)  (⟨⟨⟨by omega, by omega⟩, by simp only [List.length_set]; exact hsl, hso.swap (by omega) (by omega) (by omega) (by omega) (by omega) (by omega) (by omega)⟩, by omega⟩) ⟨ke rfl, ke rfl, ke rfl, ke rfl, ke rfl, ke rfl, trivial⟩ (fun _ _ h => h)
  ·
   have := h2
   refine Tr.exit ?_
   refine Fin.then_exit ?_
   refine Fin.then_exit ?_
   refine Fin.block_here ?_
   refine Fin.closeL (PermL a b l) 1 rfl (by first | exact hso | exact PermL.refl _ _ _) ?_
   refine Fin.drop 0 ?_
   exact Fin.retM0 rfl
 ·
  refine Tr.skip ?_
  refine Fin.closeL (PermL a b l) 0 rfl (by first | exact hso | exact PermL.refl _ _ _) ?_
  exact Fin.retM0 rfl
end Go.Proofs.YthmnoekgicggnaaGreat
namespace Go.Proofs.YthmnoekgicggnaaGreat
open Go Go.RowKit Cp
set_option maxRecDepth 20000 in
theorem w_spdq0G {l : List Fnd} {c : Fnd × Fnd → Int} {b0 cap len : Nat} {sp : List Value} {a b lim : Int} (hln : l.length = len) (hll : len ≤ 1000000) (hw : Go.Sort.SWO (ltc c)) (hc5 : len < 50) (hB : Go.Sort.Below (ltc c) a.toNat b.toNat l.toArray) (h0 : 0 ≤ a) (hab : a ≤ b) (hb : b ≤ len) (hl0 : 0 ≤ lim) (hl1 : lim ≤ 100) (m : Nat) (hm : (b - a).toNat < m) (ih : ∀ {l : List Fnd} {a b lim : Int} {sp : List Value}, l.length = len → Go.Sort.Below (ltc c) a.toNat b.toNat l.toArray → 0 ≤ a → a ≤ b → b ≤ len → 0 ≤ lim → lim ≤ 100 → (b - a).toNat + 1 < m → FunM Tryz.prog 122 [is (.slice (some ⟨b0, 0, none⟩) len cap), int a, int b, int lim, clo Tryz.prog (fun x : Fnd × Fnd => [agg (rowF x.1), agg (rowF x.2)]) (fun x => int (c x))] (unit_) (cellsRes true b0 42 ((l.map rowF).flatten ++ sp.map is)) (fun _ => relRes b0 42 rowF (SortL c a b l) (sp.map is)))  : FunM Tryz.prog 122 [is (.slice (some ⟨b0, 0, none⟩) len cap), int a, int b, int lim, clo Tryz.prog (fun x : Fnd × Fnd => [agg (rowF x.1), agg (rowF x.2)]) (fun x => int (c x))] (unit_) (cellsRes true b0 42 ((l.map rowF).flatten ++ sp.map is)) (fun _ => relRes b0 42 rowF (SortL c a b l) (sp.map is)) := by
 refine FunM.of Tryz.func122 rfl rfl (by exact Nat.le_of_ble_eq_true rfl) fun M0 w0 S rs M1 w1 => ?_
 have hls : b.toNat ≤ l.toArray.size := by simp only [List.size_toArray]; omega
 refine Tr.seq (Tr.reg0 ?_)
 refine Ch.as rfl rfl rfl rfl rfl ?_
 refine Ch.nil (Fin.go (Tr.seq (Tr.reg0 ?_)))
 refine Ch.as rfl rfl rfl rfl rfl ?_
 refine Ch.nil (Fin.go (Tr.block ?_))
 refine Tr.loopD4V0 [(0, _), (4, _)] ⟨ke rfl, ke rfl, trivial⟩ (fun (a1 : Int) (b1 : Int) (p : Int × Bool × Bool) (st : List Fnd) => [(1, int a1), (2, int b1), (3, int p.1), (10, bool p.2.1), (11, bool p.2.2)]) (fun (a1 : Int) (b1 : Int) (p : Int × Bool × Bool) (st : List Fnd) => Hp M0 w0 S (cellsRes true b0 42 ((st.map rowF).flatten ++ sp.map is) :: extRes M1 w1 :: rs)) (fun (a1 : Int) (b1 : Int) (p : Int × Bool × Bool) (st : List Fnd) => ((a ≤ a1 ∧ a1 ≤ b1 ∧ b1 ≤ b) ∧ 0 ≤ p.1 ∧ p.1 ≤ 100) ∧ st.length = len ∧ PS (ltc c) a.toNat b.toNat a1.toNat b1.toNat l.toArray st.toArray) (fun (a1 : Int) (b1 : Int) (p : Int × Bool × Bool) (st : List Fnd) => (b1 - a1).toNat) (a) (b) ((lim, (true, true))) (l)  (⟨⟨⟨by omega, hab, by omega⟩, hl0, hl1⟩, hln, PS.init (by omega) hB⟩) ⟨ke rfl, ke rfl, ke rfl, ke rfl, ke rfl, trivial⟩ (fun _ _ h => h) ?_
 rintro a1 b1 p st  ⟨⟨⟨ha1, ha2, ha3⟩, hpl, hpl2⟩, hsl, hps⟩
 refine Tr.block (Tr.seq (Tr.reg0 ?_))
 refine Ch.mv rfl rfl rfl rfl rfl ?_
 refine Ch.mv rfl rfl rfl rfl rfl ?_
 first
  | (refine Ch.oo rfl rfl rfl (ok_sub rfl (vl rfl) (vl rfl) ?hin) ?_; case hin => unfold InI; omega)
  | refine Ch.oo rfl rfl rfl (ok_int rfl (vl rfl) (vl rfl) rfl) ?_
 refine Ch.as rfl rfl rfl rfl rfl ?_
 refine Ch.nil (Fin.go (Tr.seq (Tr.seq (Tr.reg0 ?_))))
 refine Ch.mv rfl rfl rfl rfl rfl ?_
 refine Ch.oo rfl rfl rfl (ok_int rfl (vl rfl) (vl rfl) rfl) ?_
 refine Ch.nil (Fin.go ?_)
 refine Tr.cn rfl (fun h1 q1 => ?_) (fun h1 q1 => ?_)
 ·
  refine Tr.seq (Tr.regT ?_)
  iterate 4 refine TO.mv rfl rfl rfl rfl rfl ?_
  refine TO.efc 0 rfl rfl (by decide) (ef_callc rfl rfl (by decide) rfl (w_sinsG (by first | omega | (simp only [List.length_set]; omega)) (by omega) hw (by omega) (by omega) (by omega)) ⟨ke rfl, ke rfl, ke rfl, ke rfl, trivial⟩) ?_
  refine TO.openL 0 rfl fun t1 hp1 => ?_
  have hpl1 := hp1.len
  have hdone := (hps.perm hls hp1.1).done hp1.2
  refine TO.nil (Fin.go ?_)
  refine Tr.weak [] trivial ?_
  refine Tr.ret ?_
  refine Fin.then_ret ?_
  refine Fin.block_ret ?_
  refine Fin.then_ret ?_
  refine Fin.block_ret ?_
  refine Fin.closeL (SortL c a b l) 0 rfl (hdone) ?_
  exact Fin.retM0r rfl
 ·
  refine Tr.skip (Fin.go (Tr.seq (Tr.seq (Tr.reg0 ?_))))
  refine Ch.mv rfl rfl rfl rfl rfl ?_
  refine Ch.oo rfl rfl rfl (ok_int rfl (vl rfl) (vl rfl) rfl) ?_
  refine Ch.nil (Fin.go ?_)
  refine Tr.w9 0 1 2 3 4 10 11 12 32 rfl rfl rfl rfl rfl rfl rfl rfl rfl ?_
  refine Tr.cn rfl (fun h2 q2 => ?_) (fun h2 q2 => ?_)
  ·
   refine Tr.seq (Tr.regT ?_)
   iterate 4 refine TO.mv rfl rfl rfl rfl rfl ?_
   refine TO.efc 0 rfl rfl (by decide) (ef_callc rfl rfl (by decide) rfl (w_sheapG (by first | omega | (simp only [List.length_set]; omega)) (by omega) hw (by omega) (by omega) (by omega)) ⟨ke rfl, ke rfl, ke rfl, ke rfl, trivial⟩) ?_
   refine TO.openL 0 rfl fun t2 hp2 => ?_
   have hpl2 := hp2.len
   have hdone := (hps.perm hls hp2.1).done hp2.2
   refine TO.nil (Fin.go ?_)
   refine Tr.weak [] trivial ?_
   refine Tr.ret ?_
   refine Fin.then_ret ?_
   refine Fin.block_ret ?_
   refine Fin.then_ret ?_
   refine Fin.block_ret ?_
   refine Fin.closeL (SortL c a b l) 0 rfl (hdone) ?_
   exact Fin.retM0r rfl
  ·
   refine Tr.skip (Fin.go ?_)
   refine Tr.cutD2V0 [(0, _), (1, _), (2, _), (4, _), (10, _), (11, _), (12, _)] ⟨ke rfl, ke rfl, ke rfl, ke rfl, ke rfl, ke rfl, ke rfl, trivial⟩ (fun (lim2 : Int) (st2 : List Fnd) => [(3, int lim2)]) (fun (lim2 : Int) (st2 : List Fnd) => Hp M0 w0 S (cellsRes true b0 42 ((st2.map rowF).flatten ++ sp.map is) :: extRes M1 w1 :: rs)) (fun (lim2 : Int) (st2 : List Fnd) => 0 ≤ lim2 ∧ lim2 ≤ 100 ∧ st2.length = len ∧ PS (ltc c) a.toNat b.toNat a1.toNat b1.toNat l.toArray st2.toArray) ?_ ?_
   ·
    refine Tr.seq (Tr.reg0 ?_)
    refine Ch.mv rfl rfl rfl rfl rfl ?_
    refine Ch.oo rfl rfl rfl (ok_not rfl (vl rfl)) ?_
    refine Ch.nil (Fin.go ?_)
    refine Tr.cn rfl (fun h3 q3 => ?_) (fun h3 q3 => ?_)
    ·
     refine Tr.seq (Tr.regT ?_)
     iterate 4 refine TO.mv rfl rfl rfl rfl rfl ?_
     refine TO.efc 0 rfl rfl (by decide) (ef_callc rfl rfl (by decide) rfl (w_sbrkG (by first | omega | (simp only [List.length_set]; omega)) (by omega) (by omega) (by omega) (by omega) (by omega)) ⟨ke rfl, ke rfl, ke rfl, ke rfl, trivial⟩) ?_
     refine TO.openL 0 rfl fun t3 hp3 => ?_
     have hpl3 := hp3.len
     have hps := hps.perm hls hp3
     refine TO.nil (Fin.go ?_)
     refine Tr.w8 0 1 2 3 4 10 11 12 rfl rfl rfl rfl rfl rfl rfl rfl ?_
     refine Tr.reg0 ?_
     refine Ch.mv rfl rfl rfl rfl rfl ?_
     first
      | (refine Ch.oo rfl rfl rfl (ok_sub rfl (vl rfl) (vl rfl) ?hin) ?_; case hin => unfold InI; omega)
      | refine Ch.oo rfl rfl rfl (ok_int rfl (vl rfl) (vl rfl) rfl) ?_
     refine Ch.as rfl rfl rfl rfl rfl ?_
     refine Ch.nil ?_
     exact Fin.famD2V0 (_) (_)  (⟨by omega, by omega, by omega, hps⟩) ⟨ke rfl, ke rfl, ke rfl, ke rfl, ke rfl, ke rfl, ke rfl, ke rfl, trivial⟩ (fun _ _ h => h)
    ·
     refine Tr.skip ?_
     exact Fin.famD2V0 (_) (_)  (⟨by omega, by omega, by omega, hps⟩) ⟨ke rfl, ke rfl, ke rfl, ke rfl, ke rfl, ke rfl, ke rfl, ke rfl, trivial⟩ (fun _ _ h => h)
   ·
    rintro lim2 st2  ⟨hlm2, hlm3, hsl2, hps⟩
    refine Tr.seq (Tr.regT ?_)
    iterate 4 refine TO.mv rfl rfl rfl rfl rfl ?_
    refine TO.efc 0 rfl rfl (by decide) (ef_callc rfl rfl (by decide) rfl (w_spivG (by first | omega | (simp only [List.length_set]; omega)) (by omega) (by omega) (by omega) (by omega) (by omega)) ⟨ke rfl, ke rfl, ke rfl, ke rfl, trivial⟩) ?_
    refine TO.ex 52 rfl (fun z1 => TO.fact 52 rfl fun hz1 => ?_)
    obtain ⟨hpv1, hpv2⟩ := hz1
    refine TO.mv rfl rfl rfl rfl rfl ?_
    refine TO.oo rfl rfl rfl (ok_extract rfl (vl rfl) rfl) ?_
    refine TO.oo rfl rfl rfl (ok_extract rfl (vl rfl) rfl) ?_
    refine TO.as rfl rfl rfl rfl rfl ?_
    refine TO.as rfl rfl rfl rfl rfl ?_
    refine TO.nil (Fin.go ?_)
    refine Tr.w10 0 1 2 3 4 10 11 12 13 14 rfl rfl rfl rfl rfl rfl rfl rfl rfl rfl ?_
    refine Tr.cutD3V0 [(0, _), (1, _), (2, _), (3, _), (4, _), (10, _), (11, _), (12, _)] ⟨ke rfl, ke rfl, ke rfl, ke rfl, ke rfl, ke rfl, ke rfl, ke rfl, trivial⟩ (fun (pv : Int) (hint : Int) (st3 : List Fnd) => [(13, int pv), (14, int hint)]) (fun (pv : Int) (hint : Int) (st3 : List Fnd) => Hp M0 w0 S (cellsRes true b0 42 ((st3.map rowF).flatten ++ sp.map is) :: extRes M1 w1 :: rs)) (fun (pv : Int) (hint : Int) (st3 : List Fnd) => (a1 ≤ pv ∧ pv < b1) ∧ st3.length = len ∧ PS (ltc c) a.toNat b.toNat a1.toNat b1.toNat l.toArray st3.toArray) ?_ ?_
    ·
     refine Tr.seq (Tr.reg0 ?_)
     refine Ch.mv rfl rfl rfl rfl rfl ?_
     refine Ch.oo rfl rfl rfl (ok_int rfl (vl rfl) (vl rfl) rfl) ?_
     refine Ch.nil (Fin.go ?_)
     refine Tr.cn rfl (fun h4 q4 => ?_) (fun h4 q4 => ?_)
     ·
      refine Tr.seq (Tr.regT ?_)
      iterate 4 refine TO.mv rfl rfl rfl rfl rfl ?_
      refine TO.efc 0 rfl rfl (by decide) (ef_callc rfl rfl (by decide) rfl (w_srevG (by first | omega | (simp only [List.length_set]; omega)) (by omega) (by omega) (by omega) (by omega)) ⟨ke rfl, ke rfl, ke rfl, ke rfl, trivial⟩) ?_
      refine TO.openL 0 rfl fun t5 hp5 => ?_
      have hpl5 := hp5.len
      have hps := hps.perm hls hp5
      refine TO.nil (Fin.go ?_)
      refine Tr.w9 0 1 2 3 4 10 11 12 13 rfl rfl rfl rfl rfl rfl rfl rfl rfl ?_
      refine Tr.seq (Tr.reg0 ?_)
      refine Ch.mv rfl rfl rfl rfl rfl ?_
      first
       | (refine Ch.oo rfl rfl rfl (ok_sub rfl (vl rfl) (vl rfl) ?hin) ?_; case hin => unfold InI; omega)
       | refine Ch.oo rfl rfl rfl (ok_int rfl (vl rfl) (vl rfl) rfl) ?_
      refine Ch.mv rfl rfl rfl rfl rfl ?_
      refine Ch.mv rfl rfl rfl rfl rfl ?_
      first
       | (refine Ch.oo rfl rfl rfl (ok_sub rfl (vl rfl) (vl rfl) ?hin) ?_; case hin => unfold InI; omega)
       | refine Ch.oo rfl rfl rfl (ok_int rfl (vl rfl) (vl rfl) rfl) ?_
      first
       | (refine Ch.oo rfl rfl rfl (ok_sub rfl (vl rfl) (vl rfl) ?hin) ?_; case hin => unfold InI; omega)
       | refine Ch.oo rfl rfl rfl (ok_int rfl (vl rfl) (vl rfl) rfl) ?_
      refine Ch.as rfl rfl rfl rfl rfl ?_
      refine Ch.nil (Fin.go ?_)
      refine Tr.w9 0 1 2 3 4 10 11 12 13 rfl rfl rfl rfl rfl rfl rfl rfl rfl ?_
      refine Tr.reg0 ?_
      refine Ch.as rfl rfl rfl rfl rfl ?_
      refine Ch.nil ?_
      exact Fin.famD3V0 (_) (_) (_)  (⟨⟨by omega, by omega⟩, by omega, hps⟩) ⟨ke rfl, ke rfl, ke rfl, ke rfl, ke rfl, ke rfl, ke rfl, ke rfl, ke rfl, ke rfl, trivial⟩ (fun _ _ h => h)
     ·
      refine Tr.skip ?_
      exact Fin.famD3V0 (_) (_) (_)  (⟨⟨by omega, by omega⟩, by omega, hps⟩) ⟨ke rfl, ke rfl, ke rfl, ke rfl, ke rfl, ke rfl, ke rfl, ke rfl, ke rfl, ke rfl, trivial⟩ (fun _ _ h => h)
    ·
     rintro pv hint st3  ⟨⟨hpv1, hpv2⟩, hsl3, hps⟩
     refine Tr.w10 0 1 2 3 4 10 11 12 13 14 rfl rfl rfl rfl rfl rfl rfl rfl rfl rfl ?_
     refine Tr.cutk [0, 1, 2, 3, 4, 10, 11, 12, 13] [] (True) ?_ (fun h5 => ?_)
     ·
      refine Tr.seq (Tr.reg0 ?_)
      refine Ch.mv rfl rfl rfl rfl rfl ?_
      refine Ch.mv rfl rfl rfl rfl rfl ?_
      refine Ch.cs 69 rfl (fun h6 q6 => ?_) (fun h6 q6 => ?_)
      ·
       refine Ch.ym h6 rfl rfl rfl rfl rfl rfl rfl ?_
       refine Ch.oo rfl rfl rfl (ok_pick_t rfl (vl rfl) h6 (vl rfl)) ?_
       refine Ch.mv rfl rfl rfl rfl rfl ?_
       refine Ch.cs 72 rfl (fun h7 q7 => ?_) (fun h7 q7 => ?_)
       ·
        refine Ch.ym h7 rfl rfl rfl rfl rfl rfl rfl ?_
        refine Ch.y h7 rfl rfl rfl rfl rfl (ok_int rfl (vl rfl) (vl rfl) rfl) ?_
        refine Ch.oo rfl rfl rfl (ok_pick_t rfl (vl rfl) h7 (vl rfl)) ?_
        refine Ch.nil (Fin.go ?_)
        refine Tr.w10 0 1 2 3 4 10 11 12 13 75 rfl rfl rfl rfl rfl rfl rfl rfl rfl rfl ?_
        refine Tr.cn rfl (fun h8 q8 => ?_) (fun h8 q8 => ?_)
        ·
         refine Tr.seq (Tr.regT ?_)
         iterate 4 refine TO.mv rfl rfl rfl rfl rfl ?_
         refine TO.efc 0 rfl rfl (by decide) (ef_callc rfl rfl (by decide) rfl (w_sins5G (by first | omega | (simp only [List.length_set]; omega)) (by omega) hw (by omega) (by omega) (by omega) (by omega)) ⟨ke rfl, ke rfl, ke rfl, ke rfl, trivial⟩) ?_
         refine TO.ex 80 rfl (fun z2 => TO.fact 80 rfl fun hz2 => ?_)
         have hzz := hz2
         refine TO.nil (Fin.go ?_)
         refine Tr.w10 0 1 2 3 4 10 11 12 13 80 rfl rfl rfl rfl rfl rfl rfl rfl rfl rfl ?_
         refine Tr.cn rfl (fun h9 q9 => ?_) (fun h9 q9 => ?_)
         ·
          have hdone := hps.done (hzz h9)
          refine Tr.ret ?_
          refine Fin.then_ret ?_
          refine Fin.block_ret ?_
          refine Fin.then_ret ?_
          refine Fin.block_ret ?_
          refine Fin.closeL (SortL c a b l) 0 rfl (hdone) ?_
          exact Fin.retM0r rfl
         ·
          refine Tr.skip ?_
          exact Fin.fam_same () (by simp_all) ⟨ke rfl, ke rfl, ke rfl, ke rfl, ke rfl, ke rfl, ke rfl, ke rfl, ke rfl, trivial⟩
        ·
         refine Tr.skip ?_
         exact Fin.fam_same () (by simp_all) ⟨ke rfl, ke rfl, ke rfl, ke rfl, ke rfl, ke rfl, ke rfl, ke rfl, ke rfl, trivial⟩
       ·
        refine Ch.nt h7 rfl rfl rfl rfl rfl ?_
        refine Ch.nt h7 rfl rfl rfl rfl rfl ?_
        refine Ch.oo rfl rfl rfl (ok_pick_f rfl (vl rfl) h7 (vl rfl)) ?_
        refine Ch.nil (Fin.go ?_)
        refine Tr.w10 0 1 2 3 4 10 11 12 13 75 rfl rfl rfl rfl rfl rfl rfl rfl rfl rfl ?_
        refine Tr.cond rfl (fun h => nomatch h) (fun _ => ?_)
        refine Tr.skip ?_
        exact Fin.fam_same () (by simp_all) ⟨ke rfl, ke rfl, ke rfl, ke rfl, ke rfl, ke rfl, ke rfl, ke rfl, ke rfl, trivial⟩
      ·
       refine Ch.nt h6 rfl rfl rfl rfl rfl ?_
       refine Ch.oo rfl rfl rfl (ok_pick_f rfl (vl rfl) h6 (vl rfl)) ?_
       refine Ch.mv rfl rfl rfl rfl rfl ?_
       refine Ch.nd rfl rfl rfl rfl rfl rfl ?_
       refine Ch.nd rfl rfl rfl rfl rfl rfl ?_
       refine Ch.oo rfl rfl rfl (ok_pick_f rfl (vl rfl) rfl (vl rfl)) ?_
       refine Ch.nil (Fin.go ?_)
       refine Tr.w10 0 1 2 3 4 10 11 12 13 75 rfl rfl rfl rfl rfl rfl rfl rfl rfl rfl ?_
       refine Tr.cond rfl (fun h => nomatch h) (fun _ => ?_)
       refine Tr.skip ?_
       exact Fin.fam_same () (by simp_all) ⟨ke rfl, ke rfl, ke rfl, ke rfl, ke rfl, ke rfl, ke rfl, ke rfl, ke rfl, trivial⟩
     ·
      refine Tr.seq (Tr.seq ?_)
      refine Tr.reg1 mixed (by kernel_rfl) ?_
      refine Ch.mv rfl rfl rfl rfl rfl ?_
      refine Ch.oo rfl rfl rfl (ok_int rfl (vl rfl) (vl rfl) rfl) ?_
      refine Ch.mv rfl rfl rfl rfl rfl ?_
      refine Ch.cs 83 rfl (fun h10 q10 => ?_) (fun h10 q10 => ?_)
      ·
       iterate 3 refine Ch.ym h10 rfl rfl rfl rfl rfl rfl rfl ?_
       first
        | (refine Ch.y h10 rfl rfl rfl rfl rfl (ok_sub rfl (vl rfl) (vl rfl) ?hin) ?_; case hin => unfold InI; omega)
        | refine Ch.y h10 rfl rfl rfl rfl rfl (ok_int rfl (vl rfl) (vl rfl) rfl) ?_
       refine Ch.y h10 rfl rfl rfl rfl rfl (okp_indexSl rfl Tryz.underlying27 sz42 (vl rfl) (vl rfl) (by omega) (by omega)) ?_
       refine Ch.y h10 rfl rfl rfl rfl rfl (ok_rd 0 rfl (rd_loadA rfl agg42 sz42 (vl rfl) (cells_atG (f := rowF) (fun _ => rfl) (by omega)) rfl)) ?_
       refine Ch.ym h10 rfl rfl rfl rfl rfl rfl rfl ?_
       refine Ch.ym h10 rfl rfl rfl rfl rfl rfl rfl ?_
       refine Ch.y h10 rfl rfl rfl rfl rfl (okp_indexSl rfl Tryz.underlying27 sz42 (vl rfl) (vl rfl) (by omega) (by omega)) ?_
       refine Ch.y h10 rfl rfl rfl rfl rfl (ok_rd 0 rfl (rd_loadA rfl agg42 sz42 (vl rfl) (cells_atG (f := rowF) (fun _ => rfl) (by omega)) rfl)) ?_
       refine Ch.y h10 rfl rfl rfl rfl rfl (ok_callc (_, _) rfl (vl rfl) ⟨ke rfl, ke rfl, trivial⟩) ?_
       refine Ch.y h10 rfl rfl rfl rfl rfl (ok_int rfl (vl rfl) (vl rfl) rfl) ?_
       refine Ch.y h10 rfl rfl rfl rfl rfl (ok_not rfl (vl rfl)) ?_
       refine Ch.oo rfl rfl rfl (ok_pick_t rfl (vl rfl) h10 (vl rfl)) ?_
       refine Ch.nil (Fin.go ?_)
       refine Tr.w10 0 1 2 3 4 10 11 12 13 97 rfl rfl rfl rfl rfl rfl rfl rfl rfl rfl ?_
       refine Tr.cn rfl (fun h11 q11 => ?_) (fun h11 q11 => ?_)
       ·
        refine Tr.seq (Tr.regT ?_)
        iterate 5 refine TO.mv rfl rfl rfl rfl rfl ?_
        refine TO.efc 0 rfl rfl (by decide) (ef_callc rfl rfl (by decide) rfl (w_speqG (by first | omega | (simp only [List.length_set]; omega)) (by omega) (by omega) (by omega) (by omega) (by omega) (by omega)) ⟨ke rfl, ke rfl, ke rfl, ke rfl, ke rfl, trivial⟩) ?_
        refine TO.openL 0 rfl fun t7 hp7 => ?_
        have hpl7 := hp7.len
        obtain ⟨hps, hk1, hk2⟩ := hps.eqL hw hls hp7 (by omega) (by omega) rfl (by omega) (by omega) (by omega) (by omega) (by omega) (by assumption)
        refine TO.as rfl rfl rfl rfl rfl ?_
        refine TO.nil (Fin.go ?_)
        refine Tr.w7 0 2 3 4 10 11 15 rfl rfl rfl rfl rfl rfl rfl ?_
        refine Tr.seq (Tr.reg0 ?_)
        refine Ch.mv rfl rfl rfl rfl rfl ?_
        refine Ch.as rfl rfl rfl rfl rfl ?_
        refine Ch.nil (Fin.go (Tr.exit ?_))
        refine Fin.then_exit ?_
        refine Fin.block_here ?_
        exact Fin.famD4V0 (_) (_) ((lim2, (_, _))) (_)  (⟨⟨⟨⟨by omega, by omega, by omega⟩, hlm2, hlm3⟩, by omega, by first | exact hps | (rw [Int.toNat_natCast]; exact hps) | (rw [show (((k : Nat) : Int) + 1).toNat = k + 1 by omega]; exact hps)⟩, by omega⟩) ⟨ke rfl, ke rfl, ke rfl, ke rfl, ke rfl, ke rfl, ke rfl, trivial⟩ (fun _ _ h => h)
       ·
        refine Tr.skip (Fin.go (Tr.seq (Tr.regT ?_)))
        iterate 5 refine TO.mv rfl rfl rfl rfl rfl ?_
        refine TO.efc 0 rfl rfl (by decide) (ef_callc rfl rfl (by decide) rfl (w_spartG (by first | omega | (simp only [List.length_set]; omega)) (by omega) (by omega) (by omega) (by omega) (by omega) (by omega)) ⟨ke rfl, ke rfl, ke rfl, ke rfl, ke rfl, trivial⟩) ?_
        refine TO.ex 111 rfl (fun z3 => TO.fact 111 rfl fun hz3 => ?_)
        refine TO.openL 0 rfl fun t8 hp8 => ?_
        have hpl8 := hp8.len
        obtain ⟨hPm, hPt⟩ := parted_of hw hp8 (by omega) (by omega) (by omega) (by omega)
        have hps := hps.perm hls hPm
        have hk1 := hPt.h1
        have hk2 := hPt.h2
        generalize (PA c a1 b1 pv st3).1 = k at *
        refine TO.mv rfl rfl rfl rfl rfl ?_
        refine TO.oo rfl rfl rfl (ok_extract rfl (vl rfl) rfl) ?_
        refine TO.oo rfl rfl rfl (ok_extract rfl (vl rfl) rfl) ?_
        refine TO.as rfl rfl rfl rfl rfl ?_
        refine TO.as rfl rfl rfl rfl rfl ?_
        refine TO.nil (Fin.go ?_)
        refine Tr.w8 0 1 2 3 4 12 16 17 rfl rfl rfl rfl rfl rfl rfl rfl ?_
        refine Tr.seq (Tr.reg0 ?_)
        refine Ch.mv rfl rfl rfl rfl rfl ?_
        refine Ch.as rfl rfl rfl rfl rfl ?_
        refine Ch.nil (Fin.go (Tr.seq (Tr.reg0 ?_)))
        refine Ch.mv rfl rfl rfl rfl rfl ?_
        refine Ch.mv rfl rfl rfl rfl rfl ?_
        first
         | (refine Ch.oo rfl rfl rfl (ok_sub rfl (vl rfl) (vl rfl) ?hin) ?_; case hin => unfold InI; omega)
         | refine Ch.oo rfl rfl rfl (ok_int rfl (vl rfl) (vl rfl) rfl) ?_
        refine Ch.mv rfl rfl rfl rfl rfl ?_
        refine Ch.mv rfl rfl rfl rfl rfl ?_
        first
         | (refine Ch.oo rfl rfl rfl (ok_sub rfl (vl rfl) (vl rfl) ?hin) ?_; case hin => unfold InI; omega)
         | refine Ch.oo rfl rfl rfl (ok_int rfl (vl rfl) (vl rfl) rfl) ?_
        refine Ch.as rfl rfl rfl rfl rfl ?_
        refine Ch.as rfl rfl rfl rfl rfl ?_
        refine Ch.nil (Fin.go ?_)
        refine Tr.w10 0 1 2 3 4 11 12 16 18 19 rfl rfl rfl rfl rfl rfl rfl rfl rfl rfl ?_
        refine Tr.seq (Tr.reg0 ?_)
        refine Ch.mv rfl rfl rfl rfl rfl ?_
        refine Ch.oo rfl rfl rfl (ok_quo rfl (vl rfl) (vl rfl) (by omega)) ?_
        refine Ch.as rfl rfl rfl rfl rfl ?_
        refine Ch.nil (Fin.go (Tr.seq (Tr.reg0 ?_)))
        refine Ch.mv rfl rfl rfl rfl rfl ?_
        refine Ch.mv rfl rfl rfl rfl rfl ?_
        refine Ch.oo rfl rfl rfl (ok_int rfl (vl rfl) (vl rfl) rfl) ?_
        refine Ch.nil (Fin.go ?_)
        refine Tr.w11 0 1 2 3 4 11 16 18 19 20 125 rfl rfl rfl rfl rfl rfl rfl rfl rfl rfl rfl ?_
        refine Tr.cn rfl (fun h12 q12 => ?_) (fun h12 q12 => ?_)
        ·
         refine Tr.seq (Tr.reg0 ?_)
         refine Ch.mv rfl rfl rfl rfl rfl ?_
         refine Ch.mv rfl rfl rfl rfl rfl ?_
         refine Ch.oo rfl rfl rfl (ok_int rfl (vl rfl) (vl rfl) rfl) ?_
         refine Ch.as rfl rfl rfl rfl rfl ?_
         refine Ch.nil (Fin.go ?_)
         refine Tr.w8 0 1 2 3 4 10 11 16 rfl rfl rfl rfl rfl rfl rfl rfl ?_
         refine Tr.seq (Tr.regT ?_)
         iterate 5 refine TO.mv rfl rfl rfl rfl rfl ?_
         refine TO.efc 0 rfl rfl (by decide) (ef_callc rfl rfl (by decide) rfl (ih (by omega) (by first | exact hps.belowL (Nat.le_of_lt hPt.h2) | exact hPt.belowR) (by omega) (by omega) (by omega) (by omega) (by omega) (by omega)) ⟨ke rfl, ke rfl, ke rfl, ke rfl, ke rfl, trivial⟩) ?_
         refine TO.openL 0 rfl fun t9 hp9 => ?_
         have hpl9 := hp9.len
         first | have hps := hps.left hw hls hPt hp9.1 hp9.2 | have hps := hps.right hw hls hPt hp9.1 hp9.2
         refine TO.nil (Fin.go ?_)
         refine Tr.w7 0 2 3 4 10 11 16 rfl rfl rfl rfl rfl rfl rfl ?_
         refine Tr.reg0 ?_
         refine Ch.mv rfl rfl rfl rfl rfl ?_
         first
          | (refine Ch.oo rfl rfl rfl (ok_add rfl (vl rfl) (vl rfl) ?hin) ?_; case hin => unfold InI; omega)
          | refine Ch.oo rfl rfl rfl (ok_int rfl (vl rfl) (vl rfl) rfl) ?_
         refine Ch.as rfl rfl rfl rfl rfl ?_
         refine Ch.nil (Fin.block ?_)
         exact Fin.famD4V0 (_) (_) ((lim2, (_, _))) (_)  (⟨⟨⟨⟨by omega, by omega, by omega⟩, hlm2, hlm3⟩, by omega, by first | exact hps | (rw [Int.toNat_natCast]; exact hps) | (rw [show (((k : Nat) : Int) + 1).toNat = k + 1 by omega]; exact hps)⟩, by omega⟩) ⟨ke rfl, ke rfl, ke rfl, ke rfl, ke rfl, ke rfl, ke rfl, trivial⟩ (fun _ _ h => h)
        ·
         refine Tr.seq (Tr.reg0 ?_)
         refine Ch.mv rfl rfl rfl rfl rfl ?_
         refine Ch.mv rfl rfl rfl rfl rfl ?_
         refine Ch.oo rfl rfl rfl (ok_int rfl (vl rfl) (vl rfl) rfl) ?_
         refine Ch.as rfl rfl rfl rfl rfl ?_
         refine Ch.nil (Fin.go ?_)
         refine Tr.w8 0 1 2 3 4 10 11 16 rfl rfl rfl rfl rfl rfl rfl rfl ?_
         refine Tr.seq (Tr.regT ?_)
         refine TO.mv rfl rfl rfl rfl rfl ?_
         refine TO.mv rfl rfl rfl rfl rfl ?_
         first
          | (refine TO.oo rfl rfl rfl (ok_add rfl (vl rfl) (vl rfl) ?hin) ?_; case hin => unfold InI; omega)
          | refine TO.oo rfl rfl rfl (ok_int rfl (vl rfl) (vl rfl) rfl) ?_
         iterate 3 refine TO.mv rfl rfl rfl rfl rfl ?_
         refine TO.efc 0 rfl rfl (by decide) (ef_callc rfl rfl (by decide) rfl (ih (by omega) (by first | exact hps.belowL (Nat.le_of_lt hPt.h2) | exact hPt.belowR) (by omega) (by omega) (by omega) (by omega) (by omega) (by omega)) ⟨ke rfl, ke rfl, ke rfl, ke rfl, ke rfl, trivial⟩) ?_
         refine TO.openL 0 rfl fun t10 hp10 => ?_
         have hpl10 := hp10.len
         first | have hps := hps.left hw hls hPt hp10.1 hp10.2 | have hps := hps.right hw hls hPt hp10.1 hp10.2
         refine TO.nil (Fin.go ?_)
         refine Tr.w7 0 1 3 4 10 11 16 rfl rfl rfl rfl rfl rfl rfl ?_
         refine Tr.reg0 ?_
         refine Ch.mv rfl rfl rfl rfl rfl ?_
         refine Ch.as rfl rfl rfl rfl rfl ?_
         refine Ch.nil (Fin.block ?_)
         exact Fin.famD4V0 (_) (_) ((lim2, (_, _))) (_)  (⟨⟨⟨⟨by omega, by omega, by omega⟩, hlm2, hlm3⟩, by omega, by first | exact hps | (rw [Int.toNat_natCast]; exact hps) | (rw [show (((k : Nat) : Int) + 1).toNat = k + 1 by omega]; exact hps)⟩, by omega⟩) ⟨ke rfl, ke rfl, ke rfl, ke rfl, ke rfl, ke rfl, ke rfl, trivial⟩ (fun _ _ h => h)
      ·
       iterate 13 refine Ch.nt h10 rfl rfl rfl rfl rfl ?_
       refine Ch.oo rfl rfl rfl (ok_pick_f rfl (vl rfl) h10 (vl rfl)) ?_
       refine Ch.nil (Fin.go ?_)
       refine Tr.w10 0 1 2 3 4 10 11 12 13 97 rfl rfl rfl rfl rfl rfl rfl rfl rfl rfl ?_
       refine Tr.cond rfl (fun h => nomatch h) (fun _ => ?_)
       refine Tr.skip (Fin.go (Tr.seq (Tr.regT ?_)))
       iterate 5 refine TO.mv rfl rfl rfl rfl rfl ?_
       refine TO.efc 0 rfl rfl (by decide) (ef_callc rfl rfl (by decide) rfl (w_spartG (by first | omega | (simp only [List.length_set]; omega)) (by omega) (by omega) (by omega) (by omega) (by omega) (by omega)) ⟨ke rfl, ke rfl, ke rfl, ke rfl, ke rfl, trivial⟩) ?_
       refine TO.ex 111 rfl (fun z4 => TO.fact 111 rfl fun hz4 => ?_)
       refine TO.openL 0 rfl fun t11 hp11 => ?_
       have hpl11 := hp11.len
       obtain ⟨hPm, hPt⟩ := parted_of hw hp11 (by omega) (by omega) (by omega) (by omega)
       have hps := hps.perm hls hPm
       have hk1 := hPt.h1
       have hk2 := hPt.h2
       generalize (PA c a1 b1 pv st3).1 = k at *
       refine TO.mv rfl rfl rfl rfl rfl ?_
       refine TO.oo rfl rfl rfl (ok_extract rfl (vl rfl) rfl) ?_
       refine TO.oo rfl rfl rfl (ok_extract rfl (vl rfl) rfl) ?_
       refine TO.as rfl rfl rfl rfl rfl ?_
       refine TO.as rfl rfl rfl rfl rfl ?_
       refine TO.nil (Fin.go ?_)
       refine Tr.w8 0 1 2 3 4 12 16 17 rfl rfl rfl rfl rfl rfl rfl rfl ?_
       refine Tr.seq (Tr.reg0 ?_)
       refine Ch.mv rfl rfl rfl rfl rfl ?_
       refine Ch.as rfl rfl rfl rfl rfl ?_
       refine Ch.nil (Fin.go (Tr.seq (Tr.reg0 ?_)))
       refine Ch.mv rfl rfl rfl rfl rfl ?_
       refine Ch.mv rfl rfl rfl rfl rfl ?_
       first
        | (refine Ch.oo rfl rfl rfl (ok_sub rfl (vl rfl) (vl rfl) ?hin) ?_; case hin => unfold InI; omega)
        | refine Ch.oo rfl rfl rfl (ok_int rfl (vl rfl) (vl rfl) rfl) ?_
       refine Ch.mv rfl rfl rfl rfl rfl ?_
       refine Ch.mv rfl rfl rfl rfl rfl ?_
       first
        | (refine Ch.oo rfl rfl rfl (ok_sub rfl (vl rfl) (vl rfl) ?hin) ?_; case hin => unfold InI; omega)
        | refine Ch.oo rfl rfl rfl (ok_int rfl (vl rfl) (vl rfl) rfl) ?_
       refine Ch.as rfl rfl rfl rfl rfl ?_
       refine Ch.as rfl rfl rfl rfl rfl ?_
       refine Ch.nil (Fin.go ?_)
       refine Tr.w10 0 1 2 3 4 11 12 16 18 19 rfl rfl rfl rfl rfl rfl rfl rfl rfl rfl ?_
       refine Tr.seq (Tr.reg0 ?_)
       refine Ch.mv rfl rfl rfl rfl rfl ?_
       refine Ch.oo rfl rfl rfl (ok_quo rfl (vl rfl) (vl rfl) (by omega)) ?_
       refine Ch.as rfl rfl rfl rfl rfl ?_
       refine Ch.nil (Fin.go (Tr.seq (Tr.reg0 ?_)))
       refine Ch.mv rfl rfl rfl rfl rfl ?_
       refine Ch.mv rfl rfl rfl rfl rfl ?_
       refine Ch.oo rfl rfl rfl (ok_int rfl (vl rfl) (vl rfl) rfl) ?_
       refine Ch.nil (Fin.go ?_)
       refine Tr.w11 0 1 2 3 4 11 16 18 19 20 125 rfl rfl rfl rfl rfl rfl rfl rfl rfl rfl rfl ?_
       refine Tr.cn rfl (fun h13 q13 => ?_) (fun h13 q13 => ?_)
       ·
        refine Tr.seq (Tr.reg0 ?_)
        refine Ch.mv rfl rfl rfl rfl rfl ?_
        refine Ch.mv rfl rfl rfl rfl rfl ?_
        refine Ch.oo rfl rfl rfl (ok_int rfl (vl rfl) (vl rfl) rfl) ?_
        refine Ch.as rfl rfl rfl rfl rfl ?_
        refine Ch.nil (Fin.go ?_)
        refine Tr.w8 0 1 2 3 4 10 11 16 rfl rfl rfl rfl rfl rfl rfl rfl ?_
        refine Tr.seq (Tr.regT ?_)
        iterate 5 refine TO.mv rfl rfl rfl rfl rfl ?_
        refine TO.efc 0 rfl rfl (by decide) (ef_callc rfl rfl (by decide) rfl (ih (by omega) (by first | exact hps.belowL (Nat.le_of_lt hPt.h2) | exact hPt.belowR) (by omega) (by omega) (by omega) (by omega) (by omega) (by omega)) ⟨ke rfl, ke rfl, ke rfl, ke rfl, ke rfl, trivial⟩) ?_
        refine TO.openL 0 rfl fun t12 hp12 => ?_
        have hpl12 := hp12.len
        first | have hps := hps.left hw hls hPt hp12.1 hp12.2 | have hps := hps.right hw hls hPt hp12.1 hp12.2
        refine TO.nil (Fin.go ?_)
        refine Tr.w7 0 2 3 4 10 11 16 rfl rfl rfl rfl rfl rfl rfl ?_
        refine Tr.reg0 ?_
        refine Ch.mv rfl rfl rfl rfl rfl ?_
        first
         | (refine Ch.oo rfl rfl rfl (ok_add rfl (vl rfl) (vl rfl) ?hin) ?_; case hin => unfold InI; omega)
         | refine Ch.oo rfl rfl rfl (ok_int rfl (vl rfl) (vl rfl) rfl) ?_
        refine Ch.as rfl rfl rfl rfl rfl ?_
        refine Ch.nil (Fin.block ?_)
        exact Fin.famD4V0 (_) (_) ((lim2, (_, _))) (_)  (⟨⟨⟨⟨by omega, by omega, by omega⟩, hlm2, hlm3⟩, by omega, by first | exact hps | (rw [Int.toNat_natCast]; exact hps) | (rw [show (((k : Nat) : Int) + 1).toNat = k + 1 by omega]; exact hps)⟩, by omega⟩) ⟨ke rfl, ke rfl, ke rfl, ke rfl, ke rfl, ke rfl, ke rfl, trivial⟩ (fun _ _ h => h)
       ·
        refine Tr.seq (Tr.reg0 ?_)
        refine Ch.mv rfl rfl rfl rfl rfl ?_
        refine Ch.mv rfl rfl rfl rfl rfl ?_
        refine Ch.oo rfl rfl rfl (ok_int rfl (vl rfl) (vl rfl) rfl) ?_
        refine Ch.as rfl rfl rfl rfl rfl ?_
        refine Ch.nil (Fin.go ?_)
        refine Tr.w8 0 1 2 3 4 10 11 16 rfl rfl rfl rfl rfl rfl rfl rfl ?_
        refine Tr.seq (Tr.regT ?_)
        refine TO.mv rfl rfl rfl rfl rfl ?_
        refine TO.mv rfl rfl rfl rfl rfl ?_
        first
         | (refine TO.oo rfl rfl rfl (ok_add rfl (vl rfl) (vl rfl) ?hin) ?_; case hin => unfold InI; omega)
         | refine TO.oo rfl rfl rfl (ok_int rfl (vl rfl) (vl rfl) rfl) ?_
        iterate 3 refine TO.mv rfl rfl rfl rfl rfl ?_
        refine TO.efc 0 rfl rfl (by decide) (ef_callc rfl rfl (by decide) rfl (ih (by omega) (by first | exact hps.belowL (Nat.le_of_lt hPt.h2) | exact hPt.belowR) (by omega) (by omega) (by omega) (by omega) (by omega) (by omega)) ⟨ke rfl, ke rfl, ke rfl, ke rfl, ke rfl, trivial⟩) ?_
        refine TO.openL 0 rfl fun t13 hp13 => ?_
        have hpl13 := hp13.len
        first | have hps := hps.left hw hls hPt hp13.1 hp13.2 | have hps := hps.right hw hls hPt hp13.1 hp13.2
        refine TO.nil (Fin.go ?_)
        refine Tr.w7 0 1 3 4 10 11 16 rfl rfl rfl rfl rfl rfl rfl ?_
        refine Tr.reg0 ?_
        refine Ch.mv rfl rfl rfl rfl rfl ?_
        refine Ch.as rfl rfl rfl rfl rfl ?_
        refine Ch.nil (Fin.block ?_)
        exact Fin.famD4V0 (_) (_) ((lim2, (_, _))) (_)  (⟨⟨⟨⟨by omega, by omega, by omega⟩, hlm2, hlm3⟩, by omega, by first | exact hps | (rw [Int.toNat_natCast]; exact hps) | (rw [show (((k : Nat) : Int) + 1).toNat = k + 1 by omega]; exact hps)⟩, by omega⟩) ⟨ke rfl, ke rfl, ke rfl, ke rfl, ke rfl, ke rfl, ke rfl, trivial⟩ (fun _ _ h => h)
theorem w_spdqG : ∀ (m : Nat) {l : List Fnd} {c : Fnd × Fnd → Int} {b0 cap len : Nat} {sp : List Value} {a b lim : Int}, (hln : l.length = len) → (hll : len ≤ 1000000) → (hw : Go.Sort.SWO (ltc c)) → (hc5 : len < 50) → Go.Sort.Below (ltc c) a.toNat b.toNat l.toArray → 0 ≤ a → a ≤ b → b ≤ len → 0 ≤ lim → lim ≤ 100 → (b - a).toNat < m → FunM Tryz.prog 122 [is (.slice (some ⟨b0, 0, none⟩) len cap), int a, int b, int lim, clo Tryz.prog (fun x : Fnd × Fnd => [agg (rowF x.1), agg (rowF x.2)]) (fun x => int (c x))] (unit_) (cellsRes true b0 42 ((l.map rowF).flatten ++ sp.map is)) (fun _ => relRes b0 42 rowF (SortL c a b l) (sp.map is))
  | 0, _, _, _, _, _, _, _, _, _, _, _, _, _, _, _, _, _, _, _, h => absurd h (Nat.not_lt_zero _)
  | m + 1, _, _, _, _, _, _, _, _, _, hln, hll, hw, hc5, hB, h0, hab, hb, hl0, hl1, hm => w_spdq0G hln hll hw hc5 hB h0 hab hb hl0 hl1 (m + 1) hm (fun h1 h2 h3 h4 h5 h6 h7 h8 => w_spdqG m h1 hll hw hc5 h2 h3 h4 h5 h6 h7 (by omega))

set_option maxRecDepth 20000 in
theorem w_sortG {l : List Fnd} {c : Fnd × Fnd → Int} {b0 cap len : Nat} {sp : List Value}  (hln : l.length = len) (hw : Go.Sort.SWO (ltc c)) (hc5 : len < 50) : FunM Tryz.prog 81 [is (.slice (some ⟨b0, 0, none⟩) len cap), clo Tryz.prog (fun x : Fnd × Fnd => [agg (rowF x.1), agg (rowF x.2)]) (fun x => int (c x))] (unit_) (cellsRes true b0 42 ((l.map rowF).flatten ++ sp.map is)) (fun _ => relRes b0 42 rowF (SortL c 0 len l) (sp.map is)) := by
 refine FunM.of Tryz.func81 rfl rfl (by exact Nat.le_of_ble_eq_true rfl) fun M0 w0 S rs M1 w1 => ?_
 have hw64 : IntKind.u64.wrap ((len : Nat) : Int) = len := IntWalk.u64_in _ ⟨by omega, by omega⟩
 refine Tr.seq (Tr.reg0 ?_)
 refine Ch.mv rfl rfl rfl rfl rfl ?_
 refine Ch.oo rfl rfl rfl (okb_len rfl Tryz.underlying27 (vl rfl)) ?_
 refine Ch.as rfl rfl rfl rfl rfl ?_
 refine Ch.nil (Fin.go (Tr.regT ?_))
 iterate 3 refine TO.mv rfl rfl rfl rfl rfl ?_
 first
  | refine TO.oo rfl rfl rfl (ok_convI rfl Tryz.underlying3 Tryz.underlying105 (vl rfl) (by unfold InI; omega)) ?_
  | refine TO.oo rfl rfl rfl (ok_conv rfl Tryz.underlying3 Tryz.underlying105 (vl rfl)) ?_
 refine TO.oo rfl rfl rfl (ok_call rfl (w_BLenx (by omega) (by omega)) ⟨ke rfl, trivial⟩) ?_
 refine TO.ex 11 rfl (fun k => TO.fact 11 rfl fun hk => ?_)
 obtain ⟨hk1, hk2, hk3⟩ := hk
 refine TO.mv rfl rfl rfl rfl rfl ?_
 refine TO.efc 0 rfl rfl (by decide) (ef_callc rfl rfl (by decide) rfl (w_spdqG (len + 1) (by omega) (by omega) hw (by omega) (.inl rfl) (by omega) (by omega) (by omega) (by omega) (by omega) (by omega)) ⟨ke rfl, ke rfl, ke rfl, ke rfl, ke rfl, trivial⟩) ?_
 refine TO.openL 0 rfl fun t1 hp1 => ?_
 have hpl1 := hp1.len
 refine TO.nil ?_
 refine Fin.closeL (SortL c 0 len l) 0 rfl (hp1) ?_
 exact Fin.retM0 rfl
set_option maxRecDepth 20000 in
theorem w_insNG {rows : List (List Pr)} {b : Int} (hb : b ≤ 1) : Fun Tryz.prog 142 [slice 11 rows, int 0, int b, any] (unit_) := by
 refine Fun.of Tryz.func142 rfl rfl (by exact Nat.le_of_ble_eq_true rfl) fun M0 w0 => ?_
 refine Tr.seq (Tr.reg0 ?_)
 refine Ch.mv rfl rfl rfl rfl rfl ?_
 first
  | (refine Ch.oo rfl rfl rfl (ok_add rfl (vl rfl) (vl rfl) ?hin) ?_; case hin => unfold InI; omega)
  | refine Ch.oo rfl rfl rfl (ok_int rfl (vl rfl) (vl rfl) rfl) ?_
 refine Ch.as rfl rfl rfl rfl rfl ?_
 refine Ch.nil (Fin.go (Tr.block ?_))
 refine Tr.loopw [(0, _), (1, _), (2, _), (3, _)] ⟨ke rfl, ke rfl, ke rfl, ke rfl, trivial⟩ (fun i : Int => [(8, int i)]) (fun i : Int => i = 1) (fun i : Int => 0) 1 (rfl) ⟨ke rfl, trivial⟩ ?_
 rintro i hi
 refine Tr.seq (Tr.seq (Tr.reg0 ?_))
 refine Ch.mv rfl rfl rfl rfl rfl ?_
 refine Ch.mv rfl rfl rfl rfl rfl ?_
 refine Ch.oo rfl rfl rfl (ok_int rfl (vl rfl) (vl rfl) rfl) ?_
 refine Ch.nil (Fin.go ?_)
 refine Tr.cn rfl (fun h1 q1 => ?_) (fun h1 q1 => ?_)
 ·
  have := h1
  exfalso; omega
 ·
  have := h1
  refine Tr.exit ?_
  refine Fin.then_exit ?_
  refine Fin.then_exit ?_
  refine Fin.block_here ?_
  exact Fin.ret0 rfl
set_option maxRecDepth 20000 in
theorem w_pdqNG {rows : List (List Pr)} {b : Int} (h0 : 0 ≤ b) (hb : b ≤ 1) : Fun Tryz.prog 122 [slice 11 rows, int 0, int b, any, any] (unit_) := by
 refine Fun.of Tryz.func122 rfl rfl (by exact Nat.le_of_ble_eq_true rfl) fun M0 w0 => ?_
 refine Tr.seq (Tr.reg0 ?_)
 refine Ch.as rfl rfl rfl rfl rfl ?_
 refine Ch.nil (Fin.go (Tr.seq (Tr.reg0 ?_)))
 refine Ch.as rfl rfl rfl rfl rfl ?_
 refine Ch.nil (Fin.go (Tr.block ?_))
 refine Tr.loopw [(0, _), (4, _)] ⟨ke rfl, ke rfl, trivial⟩ (fun (u : Unit) => [(1, int 0), (2, int b)]) (fun (u : Unit) => True) (fun (u : Unit) => 0) () (trivial) ⟨ke rfl, ke rfl, trivial⟩ ?_
 rintro u _
 refine Tr.block (Tr.seq (Tr.reg0 ?_))
 refine Ch.mv rfl rfl rfl rfl rfl ?_
 refine Ch.mv rfl rfl rfl rfl rfl ?_
 first
  | (refine Ch.oo rfl rfl rfl (ok_sub rfl (vl rfl) (vl rfl) ?hin) ?_; case hin => unfold InI; omega)
  | refine Ch.oo rfl rfl rfl (ok_int rfl (vl rfl) (vl rfl) rfl) ?_
 refine Ch.as rfl rfl rfl rfl rfl ?_
 refine Ch.nil (Fin.go (Tr.seq (Tr.seq (Tr.reg0 ?_))))
 refine Ch.mv rfl rfl rfl rfl rfl ?_
 refine Ch.oo rfl rfl rfl (ok_int rfl (vl rfl) (vl rfl) rfl) ?_
 refine Ch.nil (Fin.go ?_)
 refine Tr.cn rfl (fun h1 q1 => ?_) (fun h1 q1 => ?_)
 ·
  refine Tr.seq (Tr.reg0 ?_)
  iterate 4 refine Ch.mv rfl rfl rfl rfl rfl ?_
  refine Ch.oo rfl rfl rfl (ok_call rfl (w_insNG (by omega)) ⟨ke rfl, ke rfl, ke rfl, ke rfl, trivial⟩) ?_
  refine Ch.nil (Fin.go ?_)
  refine Tr.weak [] trivial ?_
  refine Tr.ret ?_
  refine Fin.then_ret ?_
  refine Fin.block_ret ?_
  refine Fin.then_ret ?_
  refine Fin.block_ret ?_
  exact Fin.ret0r rfl
 ·
  exfalso; omega
set_option maxRecDepth 20000 in
theorem w_SortNG {rows : List (List Pr)} (hs : rows.length ≤ 1) : Fun Tryz.prog 81 [slice 11 rows, any] (unit_) := by
 refine Fun.of Tryz.func81 rfl rfl (by exact Nat.le_of_ble_eq_true rfl) fun M0 w0 => ?_
 have hw : IntKind.u64.wrap ((rows.length : Nat) : Int) = rows.length := IntWalk.u64_in _ ⟨by omega, by omega⟩
 refine Tr.seq (Tr.reg0 ?_)
 refine Ch.mv rfl rfl rfl rfl rfl ?_
 first
  | refine Ch.oo rfl rfl rfl (ok_lenm rfl Tryz.underlying27 (vl rfl)) ?_
  | refine Ch.oo rfl rfl rfl (ok_len rfl Tryz.underlying27 (vl rfl)) ?_
 refine Ch.as rfl rfl rfl rfl rfl ?_
 refine Ch.nil (Fin.go (Tr.reg0 ?_))
 iterate 3 refine Ch.mv rfl rfl rfl rfl rfl ?_
 first
  | refine Ch.oo rfl rfl rfl (ok_convI rfl Tryz.underlying3 Tryz.underlying105 (vl rfl) (by unfold InI; omega)) ?_
  | refine Ch.oo rfl rfl rfl (ok_conv rfl Tryz.underlying3 Tryz.underlying105 (vl rfl)) ?_
 refine Ch.oo rfl rfl rfl (ok_call rfl (w_BLenx (by omega) (by omega)) ⟨ke rfl, trivial⟩) ?_
 refine Ch.mv rfl rfl rfl rfl rfl ?_
 refine Ch.oo rfl rfl rfl (ok_call rfl (w_pdqNG (rows := rows) (b := (rows.length : Int)) (by omega) (by omega)) ⟨ke rfl, ke rfl, ke rfl, ⟨_, rfl, le_any _⟩, ⟨_, rfl, le_any _⟩, trivial⟩) ?_
 refine Ch.nil ?_
 exact Fin.ret0 rfl
end Go.Proofs.YthmnoekgicggnaaGreat
namespace Cp
open Go Go.RowKit Go.Great
section
variable {P : Program} {n : Nat} {E : Env} {M0 : Av} {w0 : World} {S : Nat → Prop} {rs : List Res} {o : Oper}
/-- m elements of ours, and room behind them, of which nothing is said. -/
def zeroRes (e : TypeId) (sz m : Nat) (v : Value) : Res where
  blk := match v with | .slice (some a) _ _ => some a.block | _ => none
  new := true
  h M w := ∃ (b cap : Nat) (sp : List Value), v = .slice (some ⟨b, 0, none⟩) m cap ∧ m ≤ cap ∧ cap ≤ maxLen ∧ sp.length = cap * sz ∧ (cellsRes true b e (sp.map is)).h M w
  st M w M' w' he hk h := by
    obtain ⟨b, cap, sp, rfl, h1, h2, h3, h4⟩ := h
    exact ⟨b, cap, sp, rfl, h1, h2, h3, (cellsRes true b e (sp.map is)).st M w M' w' he hk h4⟩
theorem app_zero {M : Av} {w : World} {t tn ty e : TypeId} {sz bytes : Nat} {zs : List Value} {m : Nat} {j : Nat} {kn : IntKind} (ht : P.underlying t = some (.slice e)) (htn : P.underlying tn = some (.int kn)) (hz : sizeB P e = some sz) (hby : bytesB P e = some bytes) (hze : zeroB P e = some zs) (hzl : zs.length = sz) (hone : zs.all (·.oneCell') = true) (hsz : 0 < sz)
    (h : HpH M0 w0 S rs M w) (hj : rs[j]? = some noRes) (hpos : 0 < m) (hmax : m ≤ maxLen) (hfit : m * bytes ≤ 140737488355328) :
    ∃ v' w' M', (Builtin.append_ #[t, tn] ty #[.slice none 0 0, .int .i64 (m : Nat)]).run P w = .ok v' w' ∧ (lens m).h M' w' v' ∧ Ext M w M' w' ∧ HpH M0 w0 S (rs.set j (zeroRes e sz m v')) M' w' := by
  unfold sizeB at hz
  unfold bytesB at hby
  unfold zeroB at hze
  cases hi : P.info? e with
  | none => rw [hi] at hz; cases hz
  | some i =>
    rw [hi] at hz hby hze
    simp only [Option.map_some, Option.some.injEq, Option.map_eq_some_iff] at hz hby hze
    obtain ⟨z, hzz, hze⟩ := hze
    have hzc : z.cells.size = sz := by rw [← hzl, ← hze]; simp
    have hrun := Lib.run_append_nil_zeros (P := P) w t tn ty e i z .i64 kn ht htn hi hzz m hpos (by rw [hz]; exact hsz) (by unfold maxLen at hmax; omega) (by rw [hby]; omega)
    generalize hcap : grownCap w m 0 e = cap at hrun
    have hge : m ≤ cap := by rw [← hcap]; exact grownCap_ge _ _ _ _
    have hle : cap ≤ maxLen := by rw [← hcap]; exact grownCap_le_maxLen _ _ _ _ hmax
    generalize hcs : (Builtin.zeroCells z.cells m ++ Builtin.zeroCells z.cells (cap - m)) = cs at hrun
    have hsize : cs.toList.length = cap * sz := by
      rw [← hcs, Array.length_toList, Array.size_append, size_zeroCells, size_zeroCells, hzc, ← Nat.add_mul]; congr 1; omega
    have hone' : ∀ c ∈ cs.toList, c.oneCell' = true := by
      intro c hc
      rw [← hcs, Array.toList_append] at hc
      rcases List.mem_append.1 hc with hc | hc
      · exact zeroCells_one hze hone c hc
      · exact zeroCells_one hze hone c hc
    have hb : Below w.heap.size w (w.drew.alloc (.cells cs e)) := ((Below.refl _ _).drew).alloc (Nat.le_refl _) _
    have h2 := Ext.below (M := M) hb
    have hext : Ext M w (fun b o => M b o ∨ b = w.heap.size) (w.drew.alloc (.cells cs e)) := by
      refine ⟨h2.size, fun a v hc hm => ⟨fun hx => ?_, (h2.keep a v hc hm).2⟩, fun b o ho hp hm => ⟨fun hx => ?_, (h2.obj b o ho hp hm).2⟩⟩
      · rcases hx with hx | hx
        · exact hm hx
        · have := cell_lt hc; omega
      · rcases hx with hx | hx
        · exact hm hx
        · subst hx; simp at ho
    have hs1 : (w.drew.alloc (.cells cs e)).heap.size = w.heap.size + 1 := by simp
    refine ⟨_, _, fun b o => M b o ∨ b = w.heap.size, hrun, ⟨_, _, rfl⟩, hext, ?_⟩
    refine h.replace hj hext hb.os hb.tape hb.output (fun k hk _ => hb.block k hk) rfl (fun b o hm _ => .inl hm) (fun b o hx => ?_) ?_ rfl (fun b hbk => ?_)
    · rcases hx with hx | hx
      · have := h.bd _ _ hx; omega
      · omega
    · refine ⟨w.heap.size, cap, cs.toList, rfl, hge, hle, hsize, fun o => .inr rfl, cs.toList, ?_, hl_is _ _ _, hone'⟩
      have hh : (w.drew.alloc (.cells cs e)).heap[w.heap.size]? = some (.cells cs e (0, 0)) := heap_alloc_new w.drew _
      rw [hh]
    · have hbk' : some w.heap.size = some b := hbk
      injection hbk' with e1
      subst e1
      exact ⟨by rw [hs1]; omega, .inr (Nat.le_refl _)⟩
theorem ef_appzero {t tn e : TypeId} {x y : Operand} {sz bytes d : Nat} {zs : List Value} {m : Nat} {i : Int} {j : Nat} {kn : IntKind} (hg : o.guard = none) (hd : o.dst = some d) (hn : d < n) (ho : o.op = .call { callee := .builtin .append, args := #[x, y], argTypes := #[t, tn] })
    (ht : P.underlying t = some (.slice e)) (htn : P.underlying tn = some (.int kn)) (hz : sizeB P e = some sz) (hby : bytesB P e = some bytes) (hze : zeroB P e = some zs) (hzl : zs.length = sz) (hone : zs.all (·.oneCell') = true) (hsz : 0 < sz)
    (hx : VL E x (is (.slice none 0 0))) (hy : VL E y (int i)) (hi : i = (m : Nat)) (hpos : 0 < m) (hmax : m ≤ maxLen) (hfit : m * bytes ≤ 140737488355328) : OpEf P M0 w0 S n j (SR.c noRes) ⟨d, zeroRes e sz m⟩ o E (lens m) := by
  refine ⟨hg, fun M w a rs hszn he hI hj => ?_⟩
  have h1 : a.eval x = .slice none 0 0 := hx.ev he (by simp [ho, Op.operands, Call.operands])
  have h2 : a.eval y = .int .i64 i := hy.ev he (by simp [ho, Op.operands, Call.operands])
  obtain ⟨v', w', M', hrun, h3, h4, h5⟩ := app_zero (ty := o.type) ht htn hz hby hze hzl hone hsz hI hj hpos hmax hfit
  have hrun2 : (execOp a.eval o).run P w = .ok (.value v') w' := by rw [hi] at h2; simp [execOp, ho, resolve, invoke, builtin, h1, h2, hrun]
  rw [hrun2]
  refine ⟨M', h3, h4, ?_⟩
  have : (SR.at_ (a.put o.dst v') ⟨d, zeroRes e sz m⟩) = zeroRes e sz m v' := by unfold SR.at_; rw [hd, put_same (by rw [hszn]; exact hn)]
  rw [this]; exact h5
theorem TO.openZ {Q : Exit → Act → World → Prop} {ops : Array Oper} {r : List Oper} {e : TypeId} {sz m : Nat} {v : Value} {p : Pr} (j d : Nat) (hj : rs[j]? = some (zeroRes e sz m v)) (hd : E.lookup d = some (andIs v p))
    (k : ∀ (b cap : Nat) (sp : List Value), m ≤ cap → cap ≤ maxLen → sp.length = cap * sz → TO P n ops r ((d, is (.slice (some ⟨b, 0, none⟩) m cap)) :: E) (Hp M0 w0 S (rs.set j (cellsRes true b e (sp.map is)))) Q) : TO P n ops r E (Hp M0 w0 S rs) Q := by
  intro m' hl a w hs
  obtain ⟨M, h1, h2, h3, h4⟩ := hs
  have h4 : HpH M0 w0 S rs M w := h4
  obtain ⟨b, cap, sp, rfl, h5, h6, h7, h8⟩ := (h4.hold _ (List.mem_of_getElem? hj)).1
  refine k b cap sp h5 h6 h7 m' hl a w ⟨M, h1, h2, fun s q hq => ?_, h4.swap1 hj rfl rfl h8⟩
  simp only [List.lookup] at hq
  split at hq
  · rename_i e1
    have : s = d := by simpa using e1
    subst this
    simp only [Option.some.injEq] at hq
    subst hq
    exact (h3 _ _ hd).1
  · exact h3 s q hq
theorem ok_capnil {I : Asn} {t e : TypeId} {x : Operand} (ho : o.op = .call { callee := .builtin .cap, args := #[x], argTypes := #[t] }) (ht : P.underlying t = some (.slice e)) (hx : VL E x (is (.slice none 0 0))) : OpOK P I o E (int 0) :=
  OpOK.same fun M w a he _ => by
    have h1 : a.eval x = .slice none 0 0 := hx.ev he (by simp [ho, Op.operands, Call.operands])
    exact ⟨_, by simp [execOp, ho, resolve, invoke, builtin, h1, Builtin.cap_, run_underlying ht]; rfl, rfl⟩
theorem ok_lennil {I : Asn} {t e : TypeId} {x : Operand} (ho : o.op = .call { callee := .builtin .len, args := #[x], argTypes := #[t] }) (ht : P.underlying t = some (.slice e)) (hx : VL E x (is (.slice none 0 0))) : OpOK P I o E (int 0) :=
  OpOK.le (ok_len (sz := 1) (rows := []) ho ht (VL.le hx (nil_slice 1))) (Pr.le_refl _)
theorem ok_slicenil {I : Asn} {t e : TypeId} {x y : Operand} {k : IntKind} {sz : Nat} (ho : o.op = .slice t x none (some y) none) (ht : P.underlying t = some (.slice e)) (hz : sizeB P e = some sz) (hx : VL E x (is (.slice none 0 0))) (hy : VL E y (is (.int k 0))) : OpOK P I o E (is (.slice none 0 0)) :=
  OpOK.same fun M w a he _ => by
    have h1 : a.eval x = .slice none 0 0 := hx.ev he (by simp [ho, Op.operands])
    have h2 : a.eval y = .int k 0 := hy.ev he (by simp [ho, Op.operands])
    exact ⟨_, by simp [execOp, ho, h1, h2, Instr.sliceAt, Instr.slice, Instr.sliceBounds, Instr.sliceBound, asIntOf, run_underlying ht, run_size hz], rfl⟩
end
end Cp
namespace Go.Proofs.YthmnoekgicggnaaGreat
open Go Go.RowKit Cp
set_option maxRecDepth 20000 in
theorem w_compG {l : List Fnd} {b0 cap len : Nat} {sp : List Value} (hln : l.length = len) (hll : len ≤ 1000000) (hcap : len ≤ cap) (hm : cap ≤ maxLen) : FunM Tryz.prog 82 [is (.slice (some ⟨b0, 0, none⟩) len cap)] (is (.slice (some ⟨b0, 0, none⟩) (ddL l).length cap)) (cellsRes true b0 42 ((l.map rowF).flatten ++ sp.map is)) (fun _ => cellsRes true b0 42 (((ddL l).map rowF).flatten ++ ((List.replicate (l.length - (ddL l).length) (([.int .i64 0, .string (ByteArray.mk #[]), .int .i64 0, .int .i64 0, .int .i64 0, .int .i64 0, .string (ByteArray.mk #[]), .int .i64 0, .int .i64 0, .int .i64 0, .string (ByteArray.mk #[])] : List Value).map is)).flatten ++ sp.map is))) := by
 refine FunM.of Tryz.func82 rfl rfl (by exact Nat.le_of_ble_eq_true rfl) fun M0 w0 S rs M1 w1 => ?_
 have hmx : cap ≤ 9223372036854775807 := by unfold maxLen at hm; omega
 refine Tr.seq (Tr.reg0 ?_)
 refine Ch.as rfl rfl rfl rfl rfl ?_
 refine Ch.nil (Fin.go (Tr.seq (Tr.seq (Tr.reg0 ?_))))
 refine Ch.mv rfl rfl rfl rfl rfl ?_
 refine Ch.oo rfl rfl rfl (okb_len rfl Tryz.underlying27 (vl rfl)) ?_
 refine Ch.oo rfl rfl rfl (ok_int rfl (vl rfl) (vl rfl) rfl) ?_
 refine Ch.nil (Fin.go ?_)
 refine Tr.cn rfl (fun h1 q1 => ?_) (fun h1 q1 => ?_)
 ·
  refine Tr.seq (Tr.reg0 ?_)
  refine Ch.mv rfl rfl rfl rfl rfl ?_
  refine Ch.as rfl rfl rfl rfl rfl ?_
  refine Ch.nil (Fin.go (Tr.ret ?_))
  refine Fin.then_ret ?_
  refine Fin.retM1 rfl rfl ?_ (fun _ _ _ _ => by rw [ddL_short (by omega), Nat.sub_self]; rfl)
  · refine Pr.le_of_eq ?_; rw [ddL_short (by omega), hln]
 ·
  refine Tr.skip (Fin.go (Tr.seq (Tr.seq (Tr.reg0 ?_))))
  refine Ch.as rfl rfl rfl rfl rfl ?_
  refine Ch.nil (Fin.go (Tr.block ?_))
  refine Tr.loopD1V0 [(0, _)] ⟨ke rfl, trivial⟩ (fun (k : Nat) => [(3, int ((k : Nat) : Int))]) (fun (k : Nat) => Hp M0 w0 S (cellsRes true b0 42 ((l.map rowF).flatten ++ sp.map is) :: extRes M1 w1 :: rs)) (fun (k : Nat) => (1 ≤ k ∧ k ≤ len) ∧ ddL (l.take k) = l.take k) (fun (k : Nat) => len - k) (1)  (⟨⟨by omega, by omega⟩, ddL_short (by rw [List.length_take]; omega)⟩) ⟨ke rfl, trivial⟩ (fun _ _ h => h) ?_
  rintro k  ⟨⟨hk1, hk2⟩, hdd⟩
  refine Tr.seq (Tr.seq (Tr.reg0 ?_))
  refine Ch.mv rfl rfl rfl rfl rfl ?_
  refine Ch.mv rfl rfl rfl rfl rfl ?_
  refine Ch.oo rfl rfl rfl (okb_len rfl Tryz.underlying27 (vl rfl)) ?_
  refine Ch.oo rfl rfl rfl (ok_int rfl (vl rfl) (vl rfl) rfl) ?_
  refine Ch.nil (Fin.go ?_)
  refine Tr.cn rfl (fun h2 q2 => ?_) (fun h2 q2 => ?_)
  ·
   have hkl : k < len := by have := of_decide_eq_true h2; omega
   obtain ⟨x, hx⟩ := at_ (l := l) (k := k) (by omega)
   obtain ⟨p, hp⟩ := at_ (l := l) (k := k - 1) (by omega)
   refine Tr.skip (Fin.go (Tr.seq (Tr.block (Tr.seq ?_))))
   refine Tr.reg1 mixed (by kernel_rfl) ?_
   refine Ch.mv rfl rfl rfl rfl rfl ?_
   refine Ch.mv rfl rfl rfl rfl rfl ?_
   refine Ch.oo rfl rfl rfl (okp_indexSl rfl Tryz.underlying27 sz42 (vl rfl) (vl rfl) (by omega) (by omega)) ?_
   refine Ch.oo rfl rfl rfl (ok_rd 0 rfl (rd_loadA rfl agg42 sz42 (vl rfl) (cells_atI (fun _ => rfl) (by rw [Int.toNat_natCast]; exact hx)) rfl)) ?_
   refine Ch.mv rfl rfl rfl rfl rfl ?_
   refine Ch.mv rfl rfl rfl rfl rfl ?_
   first
    | (refine Ch.oo rfl rfl rfl (ok_sub rfl (vl rfl) (vl rfl) ?hin) ?_; case hin => unfold InI; omega)
    | refine Ch.oo rfl rfl rfl (ok_int rfl (vl rfl) (vl rfl) rfl) ?_
   refine Ch.oo rfl rfl rfl (okp_indexSl rfl Tryz.underlying27 sz42 (vl rfl) (vl rfl) (by omega) (by omega)) ?_
   refine Ch.oo rfl rfl rfl (ok_rd 0 rfl (rd_loadA rfl agg42 sz42 (vl rfl) (cells_atI (fun _ => rfl) (by rw [show ((k : Int) - 1).toNat = k - 1 by omega]; exact hp)) rfl)) ?_
   refine Ch.oo rfl rfl rfl (ok_eq42 rfl (vl rfl) (vl rfl)) ?_
   refine Ch.nil (Fin.go ?_)
   refine Tr.w3 0 3 25 rfl rfl rfl ?_
   refine Tr.cn rfl (fun h3 q3 => ?_) (fun h3 q3 => ?_)
   ·
    refine Tr.seq (Tr.reg0 ?_)
    refine Ch.mv rfl rfl rfl rfl rfl ?_
    refine Ch.mv rfl rfl rfl rfl rfl ?_
    refine Ch.oo rfl rfl rfl (okb_sliceFrom rfl Tryz.underlying27 sz42 (vl rfl) (vl rfl) (by omega) (by omega) (by omega)) ?_
    refine Ch.as rfl rfl rfl rfl rfl ?_
    refine Ch.nil (Fin.go (Tr.seq (Tr.seq (Tr.reg0 ?_))))
    refine Ch.as rfl rfl rfl rfl rfl ?_
    refine Ch.nil (Fin.go (Tr.block ?_))
    refine Tr.loopD3V0 [(0, _), (4, _)] ⟨ke rfl, ke rfl, trivial⟩ (fun (st : List Fnd) (w : Nat) (j : Nat) => [(3, int ((w : Nat) : Int)), (5, int ((j : Nat) : Int))]) (fun (st : List Fnd) (w : Nat) (j : Nat) => Hp M0 w0 S (cellsRes true b0 42 ((st.map rowF).flatten ++ sp.map is) :: extRes M1 w1 :: rs)) (fun (st : List Fnd) (w : Nat) (j : Nat) => (st.length = len ∧ k ≤ w ∧ 1 ≤ j ∧ k + j ≤ len ∧ w + 1 ≤ k + j) ∧ st.take w = ddL (l.take (k + j)) ∧ ∀ i, k + j ≤ i + 1 → st[i]? = l[i]?) (fun (st : List Fnd) (w : Nat) (j : Nat) => len - (k + j)) (l) (k) (1)  (⟨⟨hln, Nat.le_refl _, Nat.le_refl _, by omega, by omega⟩, by rw [ddL_same (by omega) hx hp (fnd_iff.2 (by assumption)), hdd], fun _ _ => rfl⟩) ⟨ke rfl, ke rfl, trivial⟩ (fun _ _ h => h) ?_
    rintro st w j  ⟨⟨hsl, hw1, hj1, hj2, hw2⟩, htk, hst⟩
    refine Tr.seq (Tr.seq (Tr.reg0 ?_))
    refine Ch.mv rfl rfl rfl rfl rfl ?_
    refine Ch.mv rfl rfl rfl rfl rfl ?_
    refine Ch.oo rfl rfl rfl (okb_len rfl Tryz.underlying27 (vl rfl)) ?_
    refine Ch.oo rfl rfl rfl (ok_int rfl (vl rfl) (vl rfl) rfl) ?_
    refine Ch.nil (Fin.go ?_)
    refine Tr.cn rfl (fun h4 q4 => ?_) (fun h4 q4 => ?_)
    ·
     have hjl : k + j < len := by have := of_decide_eq_true h4; omega
     obtain ⟨u, hu⟩ := at_ (l := l) (k := k + j) (by omega)
     obtain ⟨v, hv⟩ := at_ (l := l) (k := k + j - 1) (by omega)
     have hu2 : st[k + j]? = some u := (hst _ (by omega)).trans hu
     have hv2 : st[k + j - 1]? = some v := (hst _ (by omega)).trans hv
     refine Tr.skip (Fin.go (Tr.seq (Tr.block (Tr.seq ?_))))
     refine Tr.reg1 mixed (by kernel_rfl) ?_
     refine Ch.mv rfl rfl rfl rfl rfl ?_
     refine Ch.mv rfl rfl rfl rfl rfl ?_
     refine Ch.oo rfl rfl rfl (okp_indexSl rfl Tryz.underlying27 sz42 (vl rfl) (vl rfl) (by omega) (by omega)) ?_
     refine Ch.oo rfl rfl rfl (ok_rd 0 rfl (rd_loadA rfl agg42 sz42 (vl rfl) (cells_atO (fun _ => rfl) (by rw [Int.toNat_natCast, Int.toNat_natCast]; exact hu2)) rfl)) ?_
     refine Ch.mv rfl rfl rfl rfl rfl ?_
     refine Ch.mv rfl rfl rfl rfl rfl ?_
     first
      | (refine Ch.oo rfl rfl rfl (ok_sub rfl (vl rfl) (vl rfl) ?hin) ?_; case hin => unfold InI; omega)
      | refine Ch.oo rfl rfl rfl (ok_int rfl (vl rfl) (vl rfl) rfl) ?_
     refine Ch.oo rfl rfl rfl (okp_indexSl rfl Tryz.underlying27 sz42 (vl rfl) (vl rfl) (by omega) (by omega)) ?_
     refine Ch.oo rfl rfl rfl (ok_rd 0 rfl (rd_loadA rfl agg42 sz42 (vl rfl) (cells_atO (fun _ => rfl) (by rw [Int.toNat_natCast, show k + ((j : Int) - 1).toNat = k + j - 1 by omega]; exact hv2)) rfl)) ?_
     refine Ch.oo rfl rfl rfl (ok_ne42 rfl (vl rfl) (vl rfl)) ?_
     refine Ch.nil (Fin.go ?_)
     refine Tr.w5 0 3 4 5 44 rfl rfl rfl rfl rfl ?_
     refine Tr.cn rfl (fun h5 q5 => ?_) (fun h5 q5 => ?_)
     ·
      refine Tr.seq (Tr.regT ?_)
      iterate 4 refine TO.mv rfl rfl rfl rfl rfl ?_
      refine TO.oo rfl rfl rfl (okp_indexSl rfl Tryz.underlying27 sz42 (vl rfl) (vl rfl) (by omega) (by omega)) ?_
      refine TO.rd 0 rfl rfl rfl (by decide) (rd_loadA rfl agg42 sz42 (vl rfl) (cells_atO (fun _ => rfl) (by rw [Int.toNat_natCast, Int.toNat_natCast]; exact hu2)) rfl) ?_
      refine TO.oo rfl rfl rfl (okp_indexSl rfl Tryz.underlying27 sz42 (vl rfl) (vl rfl) (by omega) (by omega)) ?_
      refine TO.ef0 0 rfl rfl (ef_store rfl rfl (vl rfl) (VL.le (vl rfl) (agg_cellsP _)) sz42 rfl (by rw [cells_len (sz := 11) (fun _ => rfl)]; omega) (cells_setN (f := rowF) (fun _ => rfl) (by omega))) ?_
      refine TO.nil (Fin.go (Tr.reg0 ?_))
      refine Ch.mv rfl rfl rfl rfl rfl ?_
      first
       | (refine Ch.oo rfl rfl rfl (ok_add rfl (vl rfl) (vl rfl) ?hin) ?_; case hin => unfold InI; omega)
       | refine Ch.oo rfl rfl rfl (ok_int rfl (vl rfl) (vl rfl) rfl) ?_
      refine Ch.as rfl rfl rfl rfl rfl ?_
      refine Ch.nil (Fin.block (Fin.go ?_))
      refine Tr.w4 0 3 4 5 rfl rfl rfl rfl ?_
      refine Tr.reg0 ?_
      refine Ch.mv rfl rfl rfl rfl rfl ?_
      first
       | (refine Ch.oo rfl rfl rfl (ok_add rfl (vl rfl) (vl rfl) ?hin) ?_; case hin => unfold InI; omega)
       | refine Ch.oo rfl rfl rfl (ok_int rfl (vl rfl) (vl rfl) rfl) ?_
      refine Ch.as rfl rfl rfl rfl rfl ?_
      refine Ch.nil ?_
      exact Fin.famD3V0 (st.set w u) (w + 1) (j + 1)  (⟨⟨⟨by rw [List.length_set]; exact hsl, by omega, by omega, by omega, by omega⟩, by rw [set_take (by omega), htk]; exact (ddL_ne (j := k + j) (by omega) hu hv (fun e => absurd (fnd_iff.1 e) (by assumption))).symm, fun i hi => by rw [List.getElem?_set_ne (by omega)]; exact hst i (by omega)⟩, by omega⟩) ⟨⟨_, rfl, int_succ w⟩, ⟨_, rfl, int_succ j⟩, ke rfl, ke rfl, trivial⟩ (fun _ _ h => h)
     ·
      refine Tr.skip (Fin.block (Fin.go (Tr.reg0 ?_)))
      refine Ch.mv rfl rfl rfl rfl rfl ?_
      first
       | (refine Ch.oo rfl rfl rfl (ok_add rfl (vl rfl) (vl rfl) ?hin) ?_; case hin => unfold InI; omega)
       | refine Ch.oo rfl rfl rfl (ok_int rfl (vl rfl) (vl rfl) rfl) ?_
      refine Ch.as rfl rfl rfl rfl rfl ?_
      refine Ch.nil ?_
      exact Fin.famD3V0 (st) (w) (j + 1)  (⟨⟨⟨hsl, by omega, by omega, by omega, by omega⟩, htk.trans (ddL_same (j := k + j) (by omega) hu hv (fnd_iff.2 (by assumption))).symm, fun i hi => hst i (by omega)⟩, by omega⟩) ⟨ke rfl, ⟨_, rfl, int_succ j⟩, ke rfl, ke rfl, trivial⟩ (fun _ _ h => h)
    ·
     have hje : k + j = len := by have := of_decide_eq_false h4; omega
     have hE : st.take w = ddL l := by rw [htk, hje, ← hln, List.take_length]
     have hW : (ddL l).length = w := by rw [← hE, List.length_take]; omega
     refine Tr.exit ?_
     refine Fin.then_exit ?_
     refine Fin.then_exit ?_
     refine Fin.block_here ?_
     refine Fin.go (Tr.seq (Tr.regT ?_))
     refine TO.mv rfl rfl rfl rfl rfl ?_
     refine TO.mv rfl rfl rfl rfl rfl ?_
     refine TO.oo rfl rfl rfl (okb_sliceFrom rfl Tryz.underlying27 sz42 (vl rfl) (vl rfl) (by omega) (by omega) (by omega)) ?_
     refine TO.ef0 0 rfl rfl (ef_clear rfl rfl Tryz.underlying27 sz42 z42 rfl (by decide) (by decide) (vl rfl) (by omega) (by rw [cells_len (sz := 11) (fun _ => rfl)]; omega) (cells_clearR (f := rowF) (sz := 11) (l := st) (i := w) (fun _ => rfl) rfl (by omega) (by omega))) ?_
     refine TO.nil (Fin.go (Tr.seq (Tr.reg0 ?_)))
     refine Ch.mv rfl rfl rfl rfl rfl ?_
     refine Ch.mv rfl rfl rfl rfl rfl ?_
     refine Ch.oo rfl rfl rfl (okb_sliceTo rfl Tryz.underlying27 sz42 (vl rfl) (vl rfl) (by omega) (by omega) (by omega) (by omega)) ?_
     refine Ch.as rfl rfl rfl rfl rfl ?_
     refine Ch.nil (Fin.go ?_)
     refine Tr.w1 2 rfl ?_
     refine Tr.ret ?_
     refine Fin.block_ret ?_
     refine Fin.then_ret ?_
     refine Fin.then_ret ?_
     refine Fin.block_ret ?_
     refine Fin.then_ret ?_
     refine Fin.retM1 rfl rfl ?_ (fun _ _ _ _ => by rw [hW, ← hE, hln, ← hsl, List.append_assoc])
     · refine Pr.le_of_eq ?_; rw [hW, Int.toNat_natCast]
   ·
    refine Tr.skip (Fin.block (Fin.go (Tr.reg0 ?_)))
    refine Ch.mv rfl rfl rfl rfl rfl ?_
    first
     | (refine Ch.oo rfl rfl rfl (ok_add rfl (vl rfl) (vl rfl) ?hin) ?_; case hin => unfold InI; omega)
     | refine Ch.oo rfl rfl rfl (ok_int rfl (vl rfl) (vl rfl) rfl) ?_
    refine Ch.as rfl rfl rfl rfl rfl ?_
    refine Ch.nil ?_
    exact Fin.famD1V0 (k + 1)  (⟨⟨⟨by omega, by omega⟩, by rw [ddL_ne (by omega) hx hp (fun e => absurd (fnd_iff.1 e) (by assumption)), hdd, List.take_add_one, hx]; rfl⟩, by omega⟩) ⟨⟨_, rfl, int_succ k⟩, ke rfl, trivial⟩ (fun _ _ h => h)
  ·
   have hke : k = len := by have := of_decide_eq_false h2; omega
   refine Tr.exit ?_
   refine Fin.then_exit ?_
   refine Fin.then_exit ?_
   refine Fin.block_here ?_
   refine Fin.go (Tr.seq (Tr.reg0 ?_))
   refine Ch.mv rfl rfl rfl rfl rfl ?_
   refine Ch.as rfl rfl rfl rfl rfl ?_
   refine Ch.nil (Fin.go (Tr.ret ?_))
   refine Fin.retM1 rfl rfl ?_ (fun _ _ _ _ => by rw [show ddL l = l by rw [hke, ← hln, List.take_length] at hdd; exact hdd, Nat.sub_self]; rfl)
   · refine Pr.le_of_eq ?_; rw [show ddL l = l by rw [hke, ← hln, List.take_length] at hdd; exact hdd, hln]
set_option maxRecDepth 20000 in
theorem w_cloneG {l : List Fnd} (h0 : l ≠ []) (hl : l.length ≤ 100000) : FunM Tryz.prog 80 [slice 11 (l.map rowF)] (lens (l.map rowF).length) (noRes) (fun v => mutRes 42 11 (l.map rowF) v) := by
 refine FunM.of Tryz.func80 rfl rfl (by exact Nat.le_of_ble_eq_true rfl) fun M0 w0 S rs M1 w1 => ?_
 have hpos : 0 < l.length := List.length_pos_iff.2 h0
 refine Tr.seq (Tr.reg0 ?_)
 refine Ch.as rfl rfl rfl rfl rfl ?_
 refine Ch.nil (Fin.go (Tr.seq (Tr.seq (Tr.reg0 ?_))))
 refine Ch.mv rfl rfl rfl rfl rfl ?_
 refine Ch.oo rfl rfl rfl (ok_eqnil rfl Tryz.underlying27 (vl rfl)) ?_
 refine Ch.nil (Fin.go ?_)
 refine Tr.ex 4 rfl (fun z1 => Tr.fact 4 rfl fun hz1 => ?_)
 refine Tr.cn rfl (fun h1 q1 => ?_) (fun h1 q1 => ?_)
 ·
  exfalso; have := hz1 h1; simp_all
 ·
  refine Tr.skip (Fin.go (Tr.seq (Tr.regT ?_)))
  refine TO.oo rfl rfl rfl (ok_buildSlice (xs := []) (rows := []) rfl rfl Tryz.underlying27 sz42 z42 rfl (by decide) trivial (by decide)) ?_
  refine TO.mv rfl rfl rfl rfl rfl ?_
  refine TO.pad ?_
  refine TO.efs 0 rfl rfl (by decide) (ef_appvoid rfl rfl (by decide) rfl Tryz.underlying27 sz42 by42 z42 rfl (by decide) (by decide) (vl rfl) (vl rfl) (by rw [List.length_map]; exact hpos) (by rw [List.length_map]; unfold maxLen; omega) (by rw [List.length_map]; omega)) (fun v1 => ?_)
  refine TO.as rfl rfl rfl rfl rfl ?_
  refine TO.nil (Fin.go (Tr.ret ?_))
  refine Fin.drop 1 ?_
  refine Fin.retM1 rfl rfl ?_ (by intro _ _ _ h; rw [h.1])
  · exact andIs_le _ _
set_option maxRecDepth 20000 in
theorem w_growG {n : Nat} (h0 : 0 < n) (hn : n ≤ 100000) : FunM Tryz.prog 83 [is (.slice none 0 0), int ((n : Nat) : Int)] (slice 11 []) (noRes) (fun v => appRes 42 11 v) := by
 refine FunM.of Tryz.func83 rfl rfl (by exact Nat.le_of_ble_eq_true rfl) fun M0 w0 S rs M1 w1 => ?_
 refine Tr.seq (Tr.reg0 ?_)
 refine Ch.as rfl rfl rfl rfl rfl ?_
 refine Ch.nil (Fin.go (Tr.seq (Tr.seq (Tr.reg0 ?_))))
 refine Ch.mv rfl rfl rfl rfl rfl ?_
 refine Ch.oo rfl rfl rfl (ok_int rfl (vl rfl) (vl rfl) rfl) ?_
 refine Ch.nil (Fin.go ?_)
 refine Tr.cn rfl (fun h1 q1 => ?_) (fun h1 q1 => ?_)
 ·
  exfalso; omega
 ·
  refine Tr.skip (Fin.go (Tr.seq (Tr.seq (Tr.reg0 ?_))))
  refine Ch.mv rfl rfl rfl rfl rfl ?_
  refine Ch.mv rfl rfl rfl rfl rfl ?_
  refine Ch.oo rfl rfl rfl (ok_capnil rfl Tryz.underlying27 (vl rfl)) ?_
  refine Ch.mv rfl rfl rfl rfl rfl ?_
  refine Ch.oo rfl rfl rfl (ok_lennil rfl Tryz.underlying27 (vl rfl)) ?_
  first
   | (refine Ch.oo rfl rfl rfl (ok_sub rfl (vl rfl) (vl rfl) ?hin) ?_; case hin => unfold InI; omega)
   | refine Ch.oo rfl rfl rfl (ok_int rfl (vl rfl) (vl rfl) rfl) ?_
  first
   | (refine Ch.oo rfl rfl rfl (ok_sub rfl (vl rfl) (vl rfl) ?hin) ?_; case hin => unfold InI; omega)
   | refine Ch.oo rfl rfl rfl (ok_int rfl (vl rfl) (vl rfl) rfl) ?_
  refine Ch.as rfl rfl rfl rfl rfl ?_
  refine Ch.nil (Fin.go (Tr.seq (Tr.reg0 ?_)))
  refine Ch.mv rfl rfl rfl rfl rfl ?_
  refine Ch.oo rfl rfl rfl (ok_int rfl (vl rfl) (vl rfl) rfl) ?_
  refine Ch.nil (Fin.go ?_)
  refine Tr.cn rfl (fun h2 q2 => ?_) (fun h2 q2 => ?_)
  ·
   refine Tr.regT ?_
   refine TO.mv rfl rfl rfl rfl rfl ?_
   refine TO.mv rfl rfl rfl rfl rfl ?_
   refine TO.oo rfl rfl rfl (ok_capnil rfl Tryz.underlying27 (vl rfl)) ?_
   refine TO.oo rfl rfl rfl (ok_slicenil rfl Tryz.underlying27 sz42 (vl rfl) (vl rfl)) ?_
   refine TO.mv rfl rfl rfl rfl rfl ?_
   refine TO.pad ?_
   refine TO.efs 0 rfl rfl (by decide) (ef_appzero rfl rfl (by decide) rfl Tryz.underlying27 Tryz.underlying3 sz42 by42 z42 rfl (by decide) (by decide) (vl rfl) (vl rfl) (m := n) (by omega) h0 (by unfold maxLen; omega) (by omega)) (fun v1 => ?_)
   refine TO.openZ 0 22 rfl rfl (fun b1 cap1 sp1 hg1 hm1 hs1 => ?_)
   refine TO.mv rfl rfl rfl rfl rfl ?_
   refine TO.oo rfl rfl rfl (ok_lennil rfl Tryz.underlying27 (vl rfl)) ?_
   refine TO.oo rfl rfl rfl (okb_sliceTo rfl Tryz.underlying27 sz42 (vl rfl) (vl rfl) (by omega) (by omega) (by omega) (by omega)) ?_
   refine TO.as rfl rfl rfl rfl rfl ?_
   refine TO.nil (Fin.go ?_)
   refine Tr.w1 0 rfl ?_
   refine Tr.seq (Tr.reg0 ?_)
   refine Ch.mv rfl rfl rfl rfl rfl ?_
   refine Ch.as rfl rfl rfl rfl rfl ?_
   refine Ch.nil (Fin.go (Tr.ret ?_))
   refine Fin.frzS (sz := 11) ([] : List (List Pr)) 0 4 rfl rfl (Pr.le_refl _) (by simp) (Nat.zero_le _) hm1 (by rw [List.length_map, hs1]; rfl) ?_
   refine Fin.drop 1 ?_
   refine Fin.retM1 rfl rfl ?_ (by intro _ _ _ h; rw [h.1])
   · exact andIs_le _ _
  ·
   exfalso; omega
set_option maxRecDepth 20000 in
theorem w_FNormN {l : List Fnd} (hc : ∀ f ∈ l, checkF f = true) (hf : ∀ f ∈ l, f.fits) (h0 : l ≠ []) (hl : l.length < 50) : Fun Tryz.prog 56 [fnds l] (tup [fnds (normL l), int 0]) := by
 refine Fun.of Tryz.func56 rfl rfl (by exact Nat.le_of_ble_eq_true rfl) fun M0 w0 => ?_
 refine Tr.seq (Tr.reg0 ?_)
 refine Ch.as rfl rfl rfl rfl rfl ?_
 refine Ch.as rfl rfl rfl rfl rfl ?_
 refine Ch.nil (Fin.go (Tr.seq (Tr.seq (Tr.reg0 ?_))))
 refine Ch.mv rfl rfl rfl rfl rfl ?_
 first
  | refine Ch.oo rfl rfl rfl (ok_lenm rfl Tryz.underlying27 (vl rfl)) ?_
  | refine Ch.oo rfl rfl rfl (ok_len rfl Tryz.underlying27 (vl rfl)) ?_
 refine Ch.mv rfl rfl rfl rfl rfl ?_
 refine Ch.nil (Fin.go (Tr.block ?_))
 refine Tr.loopw [(0, _), (8, _), (9, _)] ⟨ke rfl, ke rfl, ke rfl, trivial⟩ (fun k : Nat => [(10, int ((k : Nat) : Int))]) (fun k : Nat => k ≤ (l).length) (fun k : Nat => (l).length - k) 0 (Nat.zero_le _) ⟨ke rfl, trivial⟩ ?_
 rintro k hle_k
 refine Tr.seq (Tr.reg0 ?_)
 refine Ch.oo rfl rfl rfl (ok_int rfl (vl rfl) (vl rfl) rfl) ?_
 refine Ch.nil (Fin.go (Tr.seq ?_))
 refine Tr.cn rfl (fun h1 q1 => ?_) (fun h1 q1 => ?_)
 ·
  have hk_k : k < (l).length := lt_of_dec h1
  obtain ⟨x, hx_k⟩ := at_ hk_k
  have hfx := hf x (List.mem_of_getElem? hx_k)
  refine Tr.skip (Fin.go (Tr.seq (Tr.block (Tr.seq (Tr.regT ?_)))))
  refine TO.oo rfl rfl rfl (ok_indexAddr rfl Tryz.underlying27 sz42 (vl rfl) (vl rfl) (by omega) (by first | exact row_at (by assumption) | exact row_atI (by assumption) | assumption)) ?_
  refine TO.oo rfl rfl rfl (ok_loadA rfl agg42 sz42 (vl rfl) rfl rfl) ?_
  refine TO.alloc rfl rfl (by decide) rfl z42 zo42 (fun b1 => ?_)
  refine TO.store_all 0 rfl rfl rfl (vl rfl) (VL.le (vl rfl) (agg_cellsP _)) rfl sz42 rfl rfl ?_
  refine TO.freeze 0 5 rfl rfl ?_
  refine TO.nil (Fin.go (Tr.seq (Tr.reg0 ?_)))
  refine Ch.oo rfl rfl rfl (ok_loadA rfl agg42 sz42 (vl rfl) rfl rfl) ?_
  refine Ch.oo rfl rfl rfl (ok_call rfl (w_FCheck (by assumption)) ⟨ke rfl, trivial⟩) ?_
  refine Ch.as rfl rfl rfl rfl rfl ?_
  refine Ch.nil (Fin.go (Tr.seq (Tr.reg0 ?_)))
  refine Ch.mv rfl rfl rfl rfl rfl ?_
  refine Ch.oo rfl rfl rfl (ok_int rfl (vl rfl) (vl rfl) rfl) ?_
  refine Ch.nil (Fin.go ?_)
  refine Tr.w6 0 6 8 9 10 17 rfl rfl rfl rfl rfl rfl ?_
  refine Tr.cn rfl (fun h2 q2 => ?_) (fun h2 q2 => ?_)
  ·
   exact absurd (if_pos (hc x (List.mem_of_getElem? hx_k))) q2
  ·
   refine Tr.skip (Fin.block (Fin.go (Tr.reg0 ?_)))
   first
    | (refine Ch.oo rfl rfl rfl (ok_add rfl (vl rfl) (vl rfl) ?hin) ?_; case hin => unfold InI; omega)
    | refine Ch.oo rfl rfl rfl (ok_int rfl (vl rfl) (vl rfl) rfl) ?_
   refine Ch.mv rfl rfl rfl rfl rfl ?_
   refine Ch.nil ?_
   exact Fin.fam_same (k + 1) ⟨hk_k, by omega⟩ ⟨⟨_, rfl, int_succ k⟩, ke rfl, ke rfl, ke rfl, trivial⟩
 ·
  have he_k : k = (l).length := by have := ge_of_dec h1; omega
  subst he_k
  refine Tr.exit ?_
  refine Fin.then_exit ?_
  refine Fin.then_exit ?_
  refine Fin.block_here ?_
  refine Fin.go (Tr.seq (Tr.regT ?_))
  refine TO.mv rfl rfl rfl rfl rfl ?_
  refine TO.pad ?_
  refine TO.efs 0 rfl rfl (by decide) (ef_call rfl rfl (by decide) rfl (w_cloneG h0 (by omega)) ⟨ke rfl, trivial⟩) (fun v1 => ?_)
  refine TO.openM 0 rfl fun b2 cap2 sp2 hv2 hg2 hm2 hs2 => ?_
  subst hv2
  refine TO.as rfl rfl rfl rfl rfl ?_
  refine TO.nil (Fin.go (Tr.seq (Tr.regT ?_)))
  refine TO.mv rfl rfl rfl rfl rfl ?_
  refine TO.efc 0 rfl rfl (by decide) (ef_callc rfl rfl (by decide) rfl (w_sortG (l := l) (c := fun p => ordF p.1 p.2) (len := (l.map rowF).length) (sp := sp2) (List.length_map ..).symm ordF_cmp.swo (by rw [List.length_map]; exact hl)) ⟨⟨_, rfl, andIs_is _ _⟩, ⟨_, rfl, fn_le_clo e_FOrder (fun _ => w_FOrder)⟩, trivial⟩) ?_
  refine TO.openL 0 rfl fun t1 hp1 => ?_
  have hpl1 := hp1.len
  have hsp := sortL_spec ordF_cmp (by simpa using hp1)
  have hdn := dd_norm hsp.1 hsp.2
  refine TO.nil (Fin.go (Tr.seq (Tr.regT ?_)))
  refine TO.mv rfl rfl rfl rfl rfl ?_
  refine TO.efc 0 rfl rfl (by decide) (ef_callc rfl rfl (by decide) rfl (w_compG (l := t1) (len := (l.map rowF).length) (sp := sp2) (hpl1.trans (List.length_map ..).symm) (by rw [List.length_map]; omega) hg2 hm2) ⟨⟨_, rfl, andIs_is _ _⟩, trivial⟩) ?_
  refine TO.as rfl rfl rfl rfl rfl ?_
  refine TO.nil (Fin.go (Tr.seq (Tr.seq (Tr.reg0 ?_))))
  refine Ch.mv rfl rfl rfl rfl rfl ?_
  refine Ch.oo rfl rfl rfl (okb_len rfl Tryz.underlying27 (vl rfl)) ?_
  refine Ch.oo rfl rfl rfl (ok_int rfl (vl rfl) (vl rfl) rfl) ?_
  refine Ch.nil (Fin.go ?_)
  refine Tr.w2 7 28 rfl rfl ?_
  refine Tr.cn rfl (fun h3 q3 => ?_) (fun h3 q3 => ?_)
  ·
   exfalso; have := ddL_len t1; omega
  ·
   refine Tr.skip (Fin.go (Tr.seq (Tr.reg0 ?_)))
   refine Ch.mv rfl rfl rfl rfl rfl ?_
   refine Ch.as rfl rfl rfl rfl rfl ?_
   refine Ch.as rfl rfl rfl rfl rfl ?_
   refine Ch.nil (Fin.go (Tr.ret ?_))
   refine Fin.frzS (sz := 11) ((ddL t1).map rowF) 0 2 rfl rfl (Pr.le_of_eq (by rw [List.length_map])) (map_rows fun _ => rfl) (by have := ddL_len t1; simp only [List.length_map] at hg2 ⊢; omega) hm2 (by have hdl := ddL_len t1; rw [hpl1] at hdl; simp only [List.length_append, List.length_map, hs2, hpl1]; rw [flat_len (sz := 11) (fun r hr => by rw [List.eq_of_mem_replicate hr]; rfl), List.length_replicate]; simp only [List.length_map] at hg2 ⊢; omega) ?_
   refine Fin.ret2 rfl (OutW.bse _ _) rfl ?_ rfl ?_
   · exact Pr.le_trans (andIs_le _ _) (Pr.le_of_eq (by rw [hdn]))
   · first | exact Pr.le_refl _ | (refine int_eq ?_; simp_all; done) | (refine bool_eq ?_; simp_all; done) | (refine bool_eq ?_; simp_all; omega) | (refine int_eq ?_; omega)
set_option maxRecDepth 20000 in
theorem w_clone0G   : Fun Tryz.prog 80 [fnds []] (fnds []) := by
 refine Fun.of Tryz.func80 rfl rfl (by exact Nat.le_of_ble_eq_true rfl) fun M0 w0 => ?_
 refine Tr.seq (Tr.reg0 ?_)
 refine Ch.as rfl rfl rfl rfl rfl ?_
 refine Ch.nil (Fin.go (Tr.seq (Tr.seq (Tr.reg0 ?_))))
 refine Ch.mv rfl rfl rfl rfl rfl ?_
 refine Ch.oo rfl rfl rfl (ok_eqnil rfl Tryz.underlying27 (vl rfl)) ?_
 refine Ch.nil (Fin.go ?_)
 refine Tr.ex 4 rfl (fun z1 => Tr.fact 4 rfl fun hz1 => ?_)
 refine Tr.cn rfl (fun h1 q1 => ?_) (fun h1 q1 => ?_)
 ·
  refine Tr.seq (Tr.reg0 ?_)
  refine Ch.as rfl rfl rfl rfl rfl ?_
  refine Ch.nil (Fin.go (Tr.ret ?_))
  refine Fin.then_ret ?_
  refine Fin.ret1 rfl (OutW.bse _ _) rfl ?_
  · exact nil_slice 11
 ·
  refine Tr.skip (Fin.go (Tr.seq (Tr.regT ?_)))
  refine TO.oo rfl rfl rfl (ok_buildSlice (xs := []) (rows := []) rfl rfl Tryz.underlying27 sz42 z42 rfl (by decide) trivial (by decide)) ?_
  refine TO.mv rfl rfl rfl rfl rfl ?_
  refine TO.pad ?_
  refine TO.efs 0 rfl rfl (by decide) (ef_append rfl rfl (by decide) rfl Tryz.underlying27 sz42 by42 z42 rfl (by decide) ⟨_, rfl, full_le _ _⟩ (vl rfl) (by simp only [List.length_map, List.length_append, List.length_cons, List.length_nil]; unfold maxLen; omega) (by simp only [List.length_map, List.length_append, List.length_cons, List.length_nil]; omega) (appR_full (by exact List.Mem.head _) (vl rfl))) (fun v1 => ?_)
  refine TO.as rfl rfl rfl rfl rfl ?_
  refine TO.nil (Fin.go (Tr.ret ?_))
  refine Fin.ret1 rfl (OutW.bse _ _) rfl ?_
  · exact andIs_le _ _
set_option maxRecDepth 20000 in
theorem w_comp0G   : Fun Tryz.prog 82 [fnds []] (fnds []) := by
 refine Fun.of Tryz.func82 rfl rfl (by exact Nat.le_of_ble_eq_true rfl) fun M0 w0 => ?_
 refine Tr.seq (Tr.reg0 ?_)
 refine Ch.as rfl rfl rfl rfl rfl ?_
 refine Ch.nil (Fin.go (Tr.seq (Tr.seq (Tr.reg0 ?_))))
 refine Ch.mv rfl rfl rfl rfl rfl ?_
 first
  | refine Ch.oo rfl rfl rfl (ok_lenm rfl Tryz.underlying27 (vl rfl)) ?_
  | refine Ch.oo rfl rfl rfl (ok_len rfl Tryz.underlying27 (vl rfl)) ?_
 refine Ch.oo rfl rfl rfl (ok_int rfl (vl rfl) (vl rfl) rfl) ?_
 refine Ch.nil (Fin.go ?_)
 refine Tr.cn rfl (fun h1 q1 => ?_) (fun h1 q1 => ?_)
 ·
  refine Tr.seq (Tr.reg0 ?_)
  refine Ch.mv rfl rfl rfl rfl rfl ?_
  refine Ch.as rfl rfl rfl rfl rfl ?_
  refine Ch.nil (Fin.go (Tr.ret ?_))
  refine Fin.then_ret ?_
  refine Fin.ret1 rfl (OutW.bse _ _) rfl ?_
  · exact Pr.le_refl _
 ·
  exfalso; simp at h1
set_option maxRecDepth 20000 in
theorem w_FNorm0   : Fun Tryz.prog 56 [fnds []] (tup [fnds [], int 0]) := by
 refine Fun.of Tryz.func56 rfl rfl (by exact Nat.le_of_ble_eq_true rfl) fun M0 w0 => ?_
 refine Tr.seq (Tr.reg0 ?_)
 refine Ch.as rfl rfl rfl rfl rfl ?_
 refine Ch.as rfl rfl rfl rfl rfl ?_
 refine Ch.nil (Fin.go (Tr.seq (Tr.seq (Tr.reg0 ?_))))
 refine Ch.mv rfl rfl rfl rfl rfl ?_
 first
  | refine Ch.oo rfl rfl rfl (ok_lenm rfl Tryz.underlying27 (vl rfl)) ?_
  | refine Ch.oo rfl rfl rfl (ok_len rfl Tryz.underlying27 (vl rfl)) ?_
 refine Ch.mv rfl rfl rfl rfl rfl ?_
 refine Ch.nil (Fin.go (Tr.block ?_))
 refine Tr.loopw [(0, _), (8, _), (9, _)] ⟨ke rfl, ke rfl, ke rfl, trivial⟩ (fun (u : Unit) => [(10, int 0)]) (fun (u : Unit) => True) (fun (u : Unit) => 0) () (trivial) ⟨ke rfl, trivial⟩ ?_
 rintro u _
 refine Tr.seq (Tr.reg0 ?_)
 refine Ch.oo rfl rfl rfl (ok_int rfl (vl rfl) (vl rfl) rfl) ?_
 refine Ch.nil (Fin.go (Tr.seq ?_))
 refine Tr.cn rfl (fun h1 q1 => ?_) (fun h1 q1 => ?_)
 ·
  exfalso; simp at h1
 ·
  have := h1
  refine Tr.exit ?_
  refine Fin.then_exit ?_
  refine Fin.then_exit ?_
  refine Fin.block_here ?_
  refine Fin.go (Tr.seq (Tr.reg0 ?_))
  refine Ch.mv rfl rfl rfl rfl rfl ?_
  refine Ch.oo rfl rfl rfl (ok_call rfl (w_clone0G) ⟨ke rfl, trivial⟩) ?_
  refine Ch.as rfl rfl rfl rfl rfl ?_
  refine Ch.nil (Fin.go (Tr.seq (Tr.reg0 ?_)))
  refine Ch.mv rfl rfl rfl rfl rfl ?_
  refine Ch.oo rfl rfl rfl (ok_call rfl (w_SortNG (rows := []) (by decide)) ⟨ke rfl, ⟨_, rfl, le_any _⟩, trivial⟩) ?_
  refine Ch.nil (Fin.go (Tr.seq (Tr.reg0 ?_)))
  refine Ch.mv rfl rfl rfl rfl rfl ?_
  refine Ch.oo rfl rfl rfl (ok_call rfl (w_comp0G) ⟨ke rfl, trivial⟩) ?_
  refine Ch.as rfl rfl rfl rfl rfl ?_
  refine Ch.nil (Fin.go (Tr.seq (Tr.seq (Tr.reg0 ?_))))
  refine Ch.mv rfl rfl rfl rfl rfl ?_
  first
   | refine Ch.oo rfl rfl rfl (ok_lenm rfl Tryz.underlying27 (vl rfl)) ?_
   | refine Ch.oo rfl rfl rfl (ok_len rfl Tryz.underlying27 (vl rfl)) ?_
  refine Ch.oo rfl rfl rfl (ok_int rfl (vl rfl) (vl rfl) rfl) ?_
  refine Ch.nil (Fin.go ?_)
  refine Tr.w2 7 28 rfl rfl ?_
  refine Tr.cn rfl (fun h2 q2 => ?_) (fun h2 q2 => ?_)
  ·
   exfalso; simp at h2
  ·
   refine Tr.skip (Fin.go (Tr.seq (Tr.reg0 ?_)))
   refine Ch.mv rfl rfl rfl rfl rfl ?_
   refine Ch.as rfl rfl rfl rfl rfl ?_
   refine Ch.as rfl rfl rfl rfl rfl ?_
   refine Ch.nil (Fin.go (Tr.ret ?_))
   refine Fin.ret2 rfl (OutW.bse _ _) rfl ?_ rfl ?_
   · first | exact Pr.le_refl _ | (refine int_eq ?_; simp_all; done) | (refine bool_eq ?_; simp_all; done) | (refine bool_eq ?_; simp_all; omega) | (refine int_eq ?_; omega)
   · first | exact Pr.le_refl _ | (refine int_eq ?_; simp_all; done) | (refine bool_eq ?_; simp_all; done) | (refine bool_eq ?_; simp_all; omega) | (refine int_eq ?_; omega)
theorem w_FNorm {l : List Fnd} (hc : ∀ f ∈ l, checkF f = true) (hf : ∀ f ∈ l, f.fits) (hl : l.length < 50) : Fun Tryz.prog 56 [fnds l] (tup [fnds (normL l), int 0]) := by
  by_cases h : l = []
  · subst h; exact w_FNorm0
  · exact w_FNormN hc hf h hl
theorem flat_take {α : Type} {ss : List (List α)} {k : Nat} {x : List α} (h : ss[k]? = some x) : (ss.take (k + 1)).flatten = (ss.take k).flatten ++ x := by
  rw [List.take_add_one, h, List.flatten_append]; simp
theorem flat_take_le {α : Type} (ss : List (List α)) (k : Nat) : (ss.take k).flatten.length ≤ ss.flatten.length := by
  have h := congrArg (fun l : List (List α) => l.flatten.length) (List.take_append_drop k ss)
  simp only [List.flatten_append, List.length_append] at h; omega

set_option maxRecDepth 20000 in
theorem w_concatG {ss : List (List Fnd)} (h0 : 0 < ss.flatten.length) (hn : ss.flatten.length ≤ 100000) : Fun Tryz.prog 57 [slice 1 (ss.map fun a => [fnds a])] (fnds ss.flatten) := by
 refine Fun.of Tryz.func57 rfl rfl (by exact Nat.le_of_ble_eq_true rfl) fun M0 w0 => ?_
 refine Tr.lenm 0 rfl fun hlm_0 => ?_
 refine Tr.seq (Tr.reg0 ?_)
 refine Ch.as rfl rfl rfl rfl rfl ?_
 refine Ch.nil (Fin.go (Tr.seq (Tr.reg0 ?_)))
 refine Ch.as rfl rfl rfl rfl rfl ?_
 refine Ch.nil (Fin.go (Tr.seq (Tr.seq (Tr.reg0 ?_))))
 refine Ch.mv rfl rfl rfl rfl rfl ?_
 first
  | refine Ch.oo rfl rfl rfl (ok_lenm rfl Tryz.underlying116 (vl rfl)) ?_
  | refine Ch.oo rfl rfl rfl (ok_len rfl Tryz.underlying116 (vl rfl)) ?_
 refine Ch.mv rfl rfl rfl rfl rfl ?_
 refine Ch.nil (Fin.go (Tr.block ?_))
 refine Tr.loopw [(0, _), (9, _), (10, _)] ⟨ke rfl, ke rfl, ke rfl, trivial⟩ (fun k : Nat => [(11, int ((k : Nat) : Int)), (3, int (((ss.take k).flatten.length : Nat) : Int))]) (fun k : Nat => k ≤ (ss).length) (fun k : Nat => (ss).length - k) 0 (Nat.zero_le _) ⟨ke rfl, ⟨_, rfl, int_eq (by simp)⟩, trivial⟩ ?_
 rintro k hle_k
 refine Tr.seq (Tr.reg0 ?_)
 refine Ch.oo rfl rfl rfl (ok_int rfl (vl rfl) (vl rfl) rfl) ?_
 refine Ch.nil (Fin.go (Tr.seq ?_))
 refine Tr.cn rfl (fun h1 q1 => ?_) (fun h1 q1 => ?_)
 ·
  have hk_k : k < (ss).length := lt_of_dec h1
  obtain ⟨x, hx_k⟩ := at_ hk_k
  have hft := flat_take hx_k
  have hfl := flat_take_le ss (k + 1)
  rw [hft, List.length_append] at hfl
  refine Tr.skip (Fin.go (Tr.seq (Tr.block (Tr.seq (Tr.reg0 ?_)))))
  refine Ch.oo rfl rfl rfl (ok_indexAddr rfl Tryz.underlying116 sz27 (vl rfl) (vl rfl) (by omega) (by first | exact row_at (by assumption) | exact row_atI (by assumption) | assumption)) ?_
  refine Ch.oo rfl rfl rfl (ok_load1 rfl one27 (vl rfl)) ?_
  refine Ch.as rfl rfl rfl rfl rfl ?_
  refine Ch.nil (Fin.go (Tr.seq (Tr.reg0 ?_)))
  refine Ch.mv rfl rfl rfl rfl rfl ?_
  refine Ch.mv rfl rfl rfl rfl rfl ?_
  first
   | refine Ch.oo rfl rfl rfl (ok_lenm rfl Tryz.underlying27 (vl rfl)) ?_
   | refine Ch.oo rfl rfl rfl (ok_len rfl Tryz.underlying27 (vl rfl)) ?_
  first
   | (refine Ch.oo rfl rfl rfl (ok_add rfl (vl rfl) (vl rfl) ?hin) ?_; case hin => unfold InI; omega)
   | refine Ch.oo rfl rfl rfl (ok_int rfl (vl rfl) (vl rfl) rfl) ?_
  refine Ch.as rfl rfl rfl rfl rfl ?_
  refine Ch.nil (Fin.go ?_)
  refine Tr.w5 0 3 9 10 11 rfl rfl rfl rfl rfl ?_
  refine Tr.seq (Tr.reg0 ?_)
  refine Ch.mv rfl rfl rfl rfl rfl ?_
  refine Ch.oo rfl rfl rfl (ok_int rfl (vl rfl) (vl rfl) rfl) ?_
  refine Ch.nil (Fin.go ?_)
  refine Tr.cn rfl (fun h2 q2 => ?_) (fun h2 q2 => ?_)
  ·
   exfalso; omega
  ·
   refine Tr.skip (Fin.block (Fin.go (Tr.reg0 ?_)))
   first
    | (refine Ch.oo rfl rfl rfl (ok_add rfl (vl rfl) (vl rfl) ?hin) ?_; case hin => unfold InI; omega)
    | refine Ch.oo rfl rfl rfl (ok_int rfl (vl rfl) (vl rfl) rfl) ?_
   refine Ch.mv rfl rfl rfl rfl rfl ?_
   refine Ch.nil ?_
   exact Fin.fam_same (k + 1) ⟨hk_k, by omega⟩ ⟨⟨_, rfl, int_succ k⟩, ⟨_, rfl, int_eq (by rw [hft, List.length_append]; omega)⟩, ke rfl, ke rfl, ke rfl, trivial⟩
 ·
  have he_k : k = (ss).length := by have := ge_of_dec h1; omega
  subst he_k
  rw [List.take_length]
  refine Tr.exit ?_
  refine Fin.then_exit ?_
  refine Fin.then_exit ?_
  refine Fin.block_here ?_
  refine Fin.go (Tr.seq (Tr.regT ?_))
  refine TO.mv rfl rfl rfl rfl rfl ?_
  refine TO.pad ?_
  refine TO.efs 0 rfl rfl (by decide) (ef_call rfl rfl (by decide) rfl (w_growG (n := ss.flatten.length) h0 hn) ⟨ke rfl, ke rfl, trivial⟩) (fun v1 => ?_)
  refine TO.as rfl rfl rfl rfl rfl ?_
  refine TO.nil (Fin.go (Tr.seq (Tr.seq (Tr.reg0 ?_))))
  refine Ch.mv rfl rfl rfl rfl rfl ?_
  first
   | refine Ch.oo rfl rfl rfl (ok_lenm rfl Tryz.underlying116 (vl rfl)) ?_
   | refine Ch.oo rfl rfl rfl (ok_len rfl Tryz.underlying116 (vl rfl)) ?_
  refine Ch.mv rfl rfl rfl rfl rfl ?_
  refine Ch.nil (Fin.go (Tr.block ?_))
  refine Tr.loopV1 [(25, _), (26, _)] ⟨ke rfl, ke rfl, trivial⟩ (fun m v => [(27, int ((m : Nat) : Int)), (6, andIs v (fnds ((ss.take m).flatten)))]) (fun m v => Hp M0 w0 noS ([appRes 42 11 v])) (fun m : Nat => m ≤ (ss).length) (fun m : Nat => (ss).length - m) 0 v1 (Nat.zero_le _) ⟨ke rfl, ⟨_, rfl, own_le (by simp)⟩, trivial⟩ (fun _ _ h => h) ?_
  rintro m v hle_m
  refine Tr.seq (Tr.reg0 ?_)
  refine Ch.oo rfl rfl rfl (ok_int rfl (vl rfl) (vl rfl) rfl) ?_
  refine Ch.nil (Fin.go (Tr.seq ?_))
  refine Tr.cn rfl (fun h3 q3 => ?_) (fun h3 q3 => ?_)
  ·
   have hk_m : m < (ss).length := lt_of_dec h3
   obtain ⟨x, hx_m⟩ := at_ hk_m
   have hft := flat_take hx_m
   have hfl := flat_take_le ss (m + 1)
   rw [hft, List.length_append] at hfl
   refine Tr.skip (Fin.go (Tr.seq (Tr.block (Tr.seq (Tr.reg0 ?_)))))
   refine Ch.oo rfl rfl rfl (ok_indexAddr rfl Tryz.underlying116 sz27 (vl rfl) (vl rfl) (by omega) (by first | exact row_at (by assumption) | exact row_atI (by assumption) | assumption)) ?_
   refine Ch.oo rfl rfl rfl (ok_load1 rfl one27 (vl rfl)) ?_
   refine Ch.as rfl rfl rfl rfl rfl ?_
   refine Ch.nil (Fin.go (Tr.regT ?_))
   refine TO.mv rfl rfl rfl rfl rfl ?_
   refine TO.mv rfl rfl rfl rfl rfl ?_
   refine TO.efs 0 rfl rfl (by decide) (ef_append rfl rfl (by decide) rfl Tryz.underlying27 sz42 by42 z42 rfl (by decide) ⟨_, rfl, andIs_le _ _⟩ (vl rfl) (by simp only [List.length_map, List.length_append, List.length_cons, List.length_nil]; unfold maxLen; omega) (by simp only [List.length_map, List.length_append, List.length_cons, List.length_nil]; omega) (appR_is (by exact List.Mem.head _) ⟨_, rfl, andIs_is _ _⟩)) (fun v2 => ?_)
   refine TO.as rfl rfl rfl rfl rfl ?_
   refine TO.nil (Fin.block (Fin.go (Tr.reg0 ?_)))
   first
    | (refine Ch.oo rfl rfl rfl (ok_add rfl (vl rfl) (vl rfl) ?hin) ?_; case hin => unfold InI; omega)
    | refine Ch.oo rfl rfl rfl (ok_int rfl (vl rfl) (vl rfl) rfl) ?_
   refine Ch.mv rfl rfl rfl rfl rfl ?_
   refine Ch.nil ?_
   exact Fin.famV1 (m + 1) v2 (⟨hk_m, by omega⟩) ⟨⟨_, rfl, int_succ m⟩, ⟨_, rfl, own_le (by rw [hft, List.map_append])⟩, ke rfl, ke rfl, trivial⟩ (fun _ _ h => h)
  ·
   have he_m : m = (ss).length := by have := ge_of_dec h3; omega
   subst he_m
   rw [List.take_length]
   refine Tr.exit ?_
   refine Fin.then_exit ?_
   refine Fin.then_exit ?_
   refine Fin.block_here ?_
   refine Fin.go (Tr.seq (Tr.reg0 ?_))
   refine Ch.mv rfl rfl rfl rfl rfl ?_
   refine Ch.as rfl rfl rfl rfl rfl ?_
   refine Ch.nil (Fin.go (Tr.ret ?_))
   refine Fin.ret1 rfl (OutW.bse _ _) rfl ?_
   · exact andIs_le _ _
set_option maxRecDepth 20000 in
theorem w_FMerge {a b : List Fnd} (hc : ∀ f ∈ a ++ b, checkF f = true) (hf : ∀ f ∈ a ++ b, f.fits) (hb : b ≠ []) (hl : (a ++ b).length < 50) : Fun Tryz.prog 33 [fnds a, fnds b] (tup [fnds (normL (a ++ b)), int 0]) := by
 refine Fun.of Tryz.func33 rfl rfl (by exact Nat.le_of_ble_eq_true rfl) fun M0 w0 => ?_
 have hbl : 0 < b.length := List.length_pos_iff.2 hb
 have hab : [a, b].flatten = a ++ b := by simp
 have hll : (a ++ b).length = a.length + b.length := List.length_append ..
 refine Tr.seq (Tr.reg0 ?_)
 refine Ch.as rfl rfl rfl rfl rfl ?_
 refine Ch.as rfl rfl rfl rfl rfl ?_
 refine Ch.nil (Fin.go (Tr.seq (Tr.reg0 ?_)))
 refine Ch.mv rfl rfl rfl rfl rfl ?_
 refine Ch.mv rfl rfl rfl rfl rfl ?_
 refine Ch.oo rfl rfl rfl (ok_buildSlice (xs := [.tmp 6, .tmp 7]) (rows := [[_], [_]]) rfl rfl Tryz.underlying116 sz27 z27 rfl (by decide) ⟨⟨(by exact rfl), (VL.le (vl rfl) (one_cellsP _))⟩, ⟨⟨(by exact rfl), (VL.le (vl rfl) (one_cellsP _))⟩, trivial⟩⟩ (by decide)) ?_
 refine Ch.oo rfl rfl rfl (ok_call rfl (w_concatG (ss := [a, b]) (by rw [hab]; omega) (by rw [hab]; omega)) ⟨⟨_, rfl, full_le _ _⟩, trivial⟩) ?_
 refine Ch.oo rfl rfl rfl (ok_call rfl (w_FNorm (l := [a, b].flatten) (by rw [hab]; exact hc) (by rw [hab]; exact hf) (by rw [hab]; omega)) ⟨ke rfl, trivial⟩) ?_
 refine Ch.oo rfl rfl rfl (ok_extract rfl (vl rfl) rfl) ?_
 refine Ch.oo rfl rfl rfl (ok_extract rfl (vl rfl) rfl) ?_
 refine Ch.as rfl rfl rfl rfl rfl ?_
 refine Ch.as rfl rfl rfl rfl rfl ?_
 refine Ch.nil (Fin.go (Tr.ret ?_))
 refine Fin.ret2 rfl (OutW.bse _ _) rfl ?_ rfl ?_
 · exact Pr.le_of_eq (by rw [hab])
 · first | exact Pr.le_refl _ | (refine int_eq ?_; simp_all; done) | (refine bool_eq ?_; simp_all; done) | (refine bool_eq ?_; simp_all; omega) | (refine int_eq ?_; omega)
end Go.Proofs.YthmnoekgicggnaaGreat
namespace Go.Proofs.YthmnoekgicggnaaGreat
open Go Go.RowKit Cp

/-- A fact, but for which finding it is from. -/
def strip (a : Fct) : Fct := { a with fnd := 0 }
def mkF (n : Int) (f : Fnd) : Fct := ⟨n, f.subj, f.kind, f.alg, f.bits, f.num, f.text, 0⟩
theorem alike_iff {x y : Fct} : alikeF x y = true ↔ strip x = strip y := by
  unfold alikeF strip
  rw [decide_eq_true_eq, fct_eq]
  simp only [and_true]
/-- What the place of a fact is. -/
def placeS (s : Fct) : Plc := plcOf ⟨0, [], 0, 0, 0, s.kind, s.subj, s.alg, s.bits, s.num, s.text⟩
abbrev factsM (l : List Fnd) (t o : Int) : List Fct := (decM l (numsTo l.length) t o).filterMap fun p => factOf l 0 p.2
def FactV (l : List Fnd) (t o : Int) (s : Fct) : Prop := ∃ f ∈ l, s = mkF 0 f ∧ ¬ f.kind = 8 ∧ InT t o f ∧ ∀ g ∈ l, InT t o g → plcOf g = plcOf f → ¬ better g f ∧ (¬ better f g → f = g ∨ ordF f g < 0)
theorem strict_idx {l : List Fnd} (h : AdjF l) {i j : Nat} {f g : Fnd} (hf : l[i]? = some f) (hg : l[j]? = some g) (hij : i < j) : ordF f g < 0 := by
  have hi := lt_of_at hf
  have hj := lt_of_at hg
  have := List.pairwise_iff_getElem.1 (adj_pw ordF_cmp h) i j hi hj hij
  rw [List.getElem?_eq_getElem hi] at hf
  rw [List.getElem?_eq_getElem hj] at hg
  simp only [Option.some.injEq] at hf hg
  rw [← hf, ← hg]; exact this
theorem factV_iff {l : List Fnd} (hl : AdjF l) {t o : Int} {s : Fct} : (∃ a ∈ factsM l t o, strip a = s) ↔ FactV l t o s := by
  have hd := dec_spec (l := l) (t := t) (o := o) (numsTo_in _) (asc_pw_le (numsTo_asc _))
  constructor
  · rintro ⟨a, ha, rfl⟩
    obtain ⟨f, h1, h2, h3, h4, h5, h6, h7⟩ := fact_of (numsTo_in _) (asc_pw_le (numsTo_asc _)) ha
    refine ⟨f, List.mem_of_getElem? h2, by rw [h5]; rfl, h3, h4, fun g hg hin e => ?_⟩
    obtain ⟨j, hj⟩ := List.mem_iff_getElem?.1 hg
    have hjl := lt_of_at hj
    obtain ⟨h8, h9⟩ := h7 _ (mem_numsTo hjl) g (by rw [Int.toNat_natCast]; exact hj) hin e
    refine ⟨h8, fun h10 => ?_⟩
    have h11 := h9 h10
    have hr := numsTo_in _ _ h1
    rcases Nat.lt_or_eq_of_le (show a.fnd.toNat ≤ j by omega) with h12 | h12
    · exact .inr (strict_idx hl h2 hj h12)
    · left
      rw [h12, hj] at h2
      simpa using h2.symm
  · rintro ⟨f, hf, rfl, hk, hin, hb⟩
    obtain ⟨i, hi⟩ := List.mem_iff_getElem?.1 hf
    have hil := lt_of_at hi
    obtain ⟨p, hp, hp1, f1, hf1, h1, h2⟩ := hd.best _ (mem_numsTo hil) f (by rw [Int.toNat_natCast]; exact hi) hin
    obtain ⟨h3, f2, hf2, hpl, hin2⟩ := hd.val p hp
    rw [hf1] at hf2; cases hf2
    obtain ⟨h4, h5⟩ := hb f1 (List.mem_of_getElem? hf1) hin2 (by rw [hpl, hp1])
    have h6 := h2 h4
    have hr := numsTo_in _ _ h3
    have e : f = f1 := by
      rcases h5 h1 with h5 | h5
      · exact h5
      · rcases Nat.lt_or_eq_of_le (show p.2.toNat ≤ i by omega) with h7 | h7
        · have h8 := strict_idx hl hf1 hi h7
          have := ordF_swap f f1
          omega
        · rw [h7, hi] at hf1; simpa using hf1
    subst e
    exact ⟨_, List.mem_filterMap.2 ⟨p, hp, fact_yes hf1 hk⟩, rfl⟩
theorem strips_nodup {l : List Fnd} {t o : Int} : ((factsM l t o).map strip).Nodup := by
  have hd := dec_spec (l := l) (t := t) (o := o) (numsTo_in _) (asc_pw_le (numsTo_asc _))
  unfold List.Nodup factsM
  rw [List.map_filterMap, List.pairwise_filterMap]
  refine hd.keys.imp_of_mem fun {p q} hp hq hpq s hs u hu e => hpq ?_
  subst e
  have key : ∀ r : Plc × Int, r ∈ decM l (numsTo l.length) t o → (factOf l 0 r.2).map strip = some s → placeS s = r.1 := by
    intro r hr hs
    obtain ⟨_, f, hf, hpl, _⟩ := hd.val r hr
    by_cases hk : f.kind = 8
    · rw [fact_no hf hk] at hs; cases hs
    · rw [fact_yes hf hk] at hs
      simp only [Option.map_some, Option.some.injEq] at hs
      subst hs
      exact hpl
  rw [← key p hp hs, ← key q hq hu]
theorem facts_same {x y : List Fnd} (hx : AdjF x) (hy : AdjF y) {t o : Int} (h : ∀ g, InT t o g → (g ∈ x ↔ g ∈ y)) {a b : List Fct} (ha : a.Perm (factsM x t o)) (hb : b.Perm (factsM y t o)) : a.length = b.length ∧ without a b = [] ∧ without b a = [] := by
  have hv : ∀ s, FactV x t o s ↔ FactV y t o s := by
    have one : ∀ {x y : List Fnd}, (∀ g, InT t o g → (g ∈ x ↔ g ∈ y)) → ∀ s, FactV x t o s → FactV y t o s := by
      rintro x y h s ⟨f, h1, h2, h3, h4, h5⟩
      exact ⟨f, (h f h4).1 h1, h2, h3, h4, fun g hg hin => h5 g ((h g hin).2 hg) hin⟩
    exact fun s => ⟨one h s, one (fun g hg => (h g hg).symm) s⟩
  have hs : ∀ s, s ∈ a.map strip ↔ s ∈ b.map strip := by
    intro s
    have e1 : s ∈ a.map strip ↔ ∃ q ∈ factsM x t o, strip q = s := by rw [List.mem_map]; exact ⟨fun ⟨q, h1, h2⟩ => ⟨q, ha.mem_iff.1 h1, h2⟩, fun ⟨q, h1, h2⟩ => ⟨q, ha.mem_iff.2 h1, h2⟩⟩
    have e2 : s ∈ b.map strip ↔ ∃ q ∈ factsM y t o, strip q = s := by rw [List.mem_map]; exact ⟨fun ⟨q, h1, h2⟩ => ⟨q, hb.mem_iff.1 h1, h2⟩, fun ⟨q, h1, h2⟩ => ⟨q, hb.mem_iff.2 h1, h2⟩⟩
    rw [e1, e2, factV_iff hx, factV_iff hy, hv]
  have na : (a.map strip).Nodup := (ha.map strip).nodup_iff.2 strips_nodup
  have nb : (b.map strip).Nodup := (hb.map strip).nodup_iff.2 strips_nodup
  refine ⟨?_, ?_, ?_⟩
  · have := ((List.perm_ext_iff_of_nodup na nb).2 hs).length_eq
    simpa using this
  · unfold without
    rw [List.filter_eq_nil_iff]
    intro q hq
    obtain ⟨r, hr, e⟩ := List.mem_map.1 ((hs (strip q)).2 (List.mem_map.2 ⟨q, hq, rfl⟩))
    simp only [Bool.not_eq_true', Bool.not_eq_false, List.any_eq_true]
    exact ⟨r, hr, alike_iff.2 e.symm⟩
  · unfold without
    rw [List.filter_eq_nil_iff]
    intro q hq
    obtain ⟨r, hr, e⟩ := List.mem_map.1 ((hs (strip q)).1 (List.mem_map.2 ⟨q, hq, rfl⟩))
    simp only [Bool.not_eq_true', Bool.not_eq_false, List.any_eq_true]
    exact ⟨r, hr, alike_iff.2 e.symm⟩
theorem facts_older {x : List Fnd} (hx : AdjF x) {t o o' : Int} (ho : o ≤ o') {a c : List Fct} (ha : a.Perm (factsM x t o')) (hc : c.Perm (factsM x t o)) : without a c = [] := by
  unfold without
  rw [List.filter_eq_nil_iff]
  intro q hq
  obtain ⟨f, h1, h2, h3, h4, h5⟩ := (factV_iff hx).1 ⟨q, hc.mem_iff.1 hq, rfl⟩
  have : FactV x t o' (strip q) := ⟨f, h1, h2, h3, by unfold InT at *; omega, fun g hg hin e => by
    by_cases hg2 : InT t o g
    · exact h5 g hg hg2 e
    · have h6 : better f g := by unfold InT better at *; omega
      exact ⟨by unfold better at *; omega, fun h7 => absurd h6 h7⟩⟩
  obtain ⟨r, hr, e⟩ := (factV_iff hx).2 this
  simp only [Bool.not_eq_true', Bool.not_eq_false, List.any_eq_true]
  exact ⟨r, ha.mem_iff.2 hr, alike_iff.2 e.symm⟩
/-- A finding, some other day. -/
def onDay (f : Fnd) (d : Int) : Fnd := { f with day := d }
theorem onDay_check {f : Fnd} (h : checkF f = true) {d : Int} (hd : 0 ≤ d ∧ d ≤ 40000) : checkF (onDay f d) = true := by
  unfold checkF at *
  simp only [Bool.and_eq_true] at h ⊢
  obtain ⟨⟨⟨⟨h1, h2⟩, h3⟩, h4⟩, h5⟩ := h
  refine ⟨⟨⟨⟨h1, ?_⟩, h3⟩, h4⟩, h5⟩
  unfold whenF at *
  simp only [Bool.and_eq_true, decide_eq_true_eq] at h2 ⊢
  show ((0 ≤ d ∧ d ≤ 40000) ∧ 1 ≤ f.conf) ∧ f.conf ≤ 100
  omega
theorem late_all {x : List Fnd} {m : Nat} (hg : GoodFs x m) {f : Fnd} (hf : GoodF f) {d : Int} (hd : 0 ≤ d ∧ d ≤ 40000) : (∀ g ∈ x ++ [onDay f d], checkF g = true) ∧ (∀ g ∈ x ++ [onDay f d], g.fits) := by
  constructor
  · intro g h
    rcases List.mem_append.1 h with h | h
    · exact hg.norm.check g h
    · simp at h; subst h; exact onDay_check hf.check hd
  · intro g h
    rcases List.mem_append.1 h with h | h
    · exact hg.fits g h
    · simp at h; subst h; exact ⟨hf.fits.1, hf.fits.2, hf.fits.3⟩
theorem late_mem {x : List Fnd} {f : Fnd} {t o d : Int} (hd : t < d) {g : Fnd} (hin : InT t o g) : g ∈ x ↔ g ∈ normL (x ++ [onDay f d]) := by
  rw [mem_normL, List.mem_append, List.mem_singleton]
  constructor
  · exact .inl
  · rintro (h | rfl)
    · exact h
    · exact absurd hin (by unfold InT onDay; simp; omega)
theorem norm_adj (l : List Fnd) : AdjF (normL l) := fold_adj l [] (fun j a b h => by simp at h)
theorem norm_len (l : List Fnd) : (normL l).length ≤ l.length := by have := fold_len l []; simpa using this
theorem norm_okP {l : List Fnd} (hc : ∀ g ∈ l, checkF g = true) (hl : l.length < 50) : NormP (normL l) := norm_ok hc (by omega)

set_option maxRecDepth 20000 in
set_option maxHeartbeats 1000000 in
theorem w_AssetLate {t : List Int} {day : Int} (ha : 0 ≤ day ∧ day < 256) : Fun Tryz.prog 7 [ints t, is (.int .u8 day)] (bool true) := by
 refine Fun.of Tryz.func7 rfl rfl (by exact Nat.le_of_ble_eq_true rfl) fun M0 w0 => ?_
 obtain ⟨ha0, ha9⟩ := ha
 have hday1 : IntKind.i64.wrap (day.tmod 12) = day.tmod 12 := IntWalk.i64_in _ ⟨by have := Int.tmod_nonneg 12 ha0; omega, by have := Int.tmod_lt_of_pos day (show (0 : Int) < 12 by omega); omega⟩
 have hday2 := Int.tmod_nonneg 12 ha0
 have hday3 := Int.tmod_lt_of_pos day (show (0 : Int) < 12 by omega)
 refine Tr.seq (Tr.reg0 ?_)
 refine Ch.as rfl rfl rfl rfl rfl ?_
 refine Ch.nil (Fin.go (Tr.seq (Tr.seq (Tr.reg0 ?_))))
 refine Ch.mv rfl rfl rfl rfl rfl ?_
 refine Ch.oo rfl rfl rfl (ok_call rfl (w_Light) ⟨ke rfl, trivial⟩) ?_
 refine Ch.oo rfl rfl rfl (ok_not rfl (vl rfl)) ?_
 refine Ch.nil (Fin.go ?_)
 refine Tr.cn rfl (fun h1 q1 => ?_) (fun h1 q1 => ?_)
 ·
  refine Tr.seq (Tr.reg0 ?_)
  refine Ch.oo rfl rfl rfl (ok_call rfl (w_awake) trivial) ?_
  refine Ch.as rfl rfl rfl rfl rfl ?_
  refine Ch.nil (Fin.go (Tr.ret ?_))
  refine Fin.then_ret ?_
  refine Fin.ret1 rfl (OutW.bse _ _) rfl ?_
  · first | exact Pr.le_refl _ | (refine int_eq ?_; simp_all; done) | (refine bool_eq ?_; simp_all; done) | (refine bool_eq ?_; simp_all; omega) | (refine int_eq ?_; omega)
 ·
  have ht4 : t.length ≤ 400 := by simpa using h1
  have ht9 : t.length ≤ 1000000000 := by omega
  refine Tr.skip (Fin.go (Tr.seq (Tr.regT ?_)))
  refine TO.mv rfl rfl rfl rfl rfl ?_
  refine TO.pad ?_
  refine TO.efs 0 rfl rfl (by decide) (ef_call rfl rfl (by decide) rfl (w_Roll (l := t) ht9) ⟨ke rfl, trivial⟩) (fun v1 => ?_)
  refine TO.opn 26 0 _ rfl rfl (fun _ => rfl) (fun b1 => ?_)
  refine TO.as rfl rfl rfl rfl rfl ?_
  refine TO.nil (Fin.go (Tr.seq (Tr.regT ?_)))
  refine TO.mv rfl rfl rfl rfl rfl ?_
  refine TO.efc 0 rfl rfl (by decide) (ef_callc rfl rfl (by decide) rfl (w_Findings (m := 14) (by omega)) ⟨ke rfl, ke rfl, trivial⟩) ?_
  refine TO.ex 28 rfl (fun z1 => TO.fact 28 rfl fun hz1 => ?_)
  refine TO.as rfl rfl rfl rfl rfl ?_
  refine TO.nil ?_
  refine Fin.openD 0 rfl (fun s1 => ?_)
  refine Fin.go (Tr.seq (Tr.reg0 ?_))
  refine Ch.mv rfl rfl rfl rfl rfl ?_
  first
   | refine Ch.oo rfl rfl rfl (ok_convI rfl Tryz.underlying5 Tryz.underlying3 (vl rfl) (by unfold InI; omega)) ?_
   | refine Ch.oo rfl rfl rfl (ok_conv rfl Tryz.underlying5 Tryz.underlying3 (vl rfl)) ?_
  refine Ch.oo rfl rfl rfl (ok_rem rfl (vl rfl) (vl rfl) (by omega)) ?_
  refine Ch.as rfl rfl rfl rfl rfl ?_
  refine Ch.nil (Fin.go ?_)
  refine Tr.w3 5 6 7 rfl rfl rfl ?_
  refine Tr.seq (Tr.regT ?_)
  refine TO.mv rfl rfl rfl rfl rfl ?_
  refine TO.efc 0 rfl rfl (by decide) (ef_callc rfl rfl (by decide) rfl (w_Finding) ⟨ke rfl, trivial⟩) ?_
  refine TO.ex 33 rfl (fun z2 => TO.fact 33 rfl fun hz2 => ?_)
  refine TO.alloc rfl rfl (by decide) rfl z42 zo42 (fun b2 => ?_)
  refine TO.store_all 0 rfl rfl rfl (vl rfl) (VL.le (vl rfl) (agg_cellsP _)) rfl sz42 rfl rfl ?_
  refine TO.nil ?_
  refine Fin.openD 1 rfl (fun s2 => ?_)
  refine Fin.go (Tr.seq ?_)
  have hv5 := s2.val_in (n := 5) (by omega)
  refine Tr.regT ?_
  refine TO.mv rfl rfl rfl rfl rfl ?_
  first
   | (refine TO.oo rfl rfl rfl (ok_add rfl (vl rfl) (vl rfl) ?hin) ?_; case hin => unfold InI; omega)
   | refine TO.oo rfl rfl rfl (ok_int rfl (vl rfl) (vl rfl) rfl) ?_
  refine TO.mv rfl rfl rfl rfl rfl ?_
  refine TO.efc 1 rfl rfl (by decide) (ef_callc rfl rfl (by decide) rfl (w_DNext (by omega) (by omega)) ⟨ke rfl, ke rfl, trivial⟩) ?_
  first
   | (refine TO.oo rfl rfl rfl (ok_add rfl (vl rfl) (vl rfl) ?hin) ?_; case hin => unfold InI; omega)
   | refine TO.oo rfl rfl rfl (ok_int rfl (vl rfl) (vl rfl) rfl) ?_
  refine TO.oo rfl rfl rfl (okp_fieldAddr rfl fo42_3 (vl rfl)) ?_
  refine TO.ef0 0 rfl rfl (ef_store rfl rfl (vl rfl) (VL.le (vl rfl) (one_cellsP _)) sz3 rfl (by exact Nat.le_of_ble_eq_true rfl) rfl) ?_
  refine TO.nil (Fin.go (Tr.seq ?_))
  have hla := late_all hz1 hz2 (d := (day.tmod 12) + 1 + s2.val 5) ⟨by omega, by omega⟩
  have hzl := hz1.len
  have hyl := norm_len (z1 ++ [(onDay z2 ((day.tmod 12) + 1 + s2.val 5))])
  rw [List.length_append, List.length_singleton] at hyl
  refine Tr.reg0 ?_
  refine Ch.mv rfl rfl rfl rfl rfl ?_
  refine Ch.oo rfl rfl rfl (ok_rd 0 rfl (rd_loadA rfl agg42 sz42 (vl rfl) rfl rfl)) ?_
  refine Ch.oo rfl rfl rfl (ok_buildSlice (xs := [.tmp 42]) (rows := [_]) rfl rfl Tryz.underlying27 sz42 z42 rfl (by decide) ⟨⟨(by exact rfl), (VL.le (vl rfl) (agg_cellsP _))⟩, trivial⟩ (by decide)) ?_
  refine Ch.oo rfl rfl rfl (ok_call rfl (w_FMerge (a := z1) (b := [(onDay z2 ((day.tmod 12) + 1 + s2.val 5))]) hla.1 hla.2 (by simp) (by simp; omega)) ⟨ke rfl, ⟨_, rfl, full_le _ _⟩, trivial⟩) ?_
  refine Ch.mv rfl rfl rfl rfl rfl ?_
  refine Ch.oo rfl rfl rfl (ok_extract rfl (vl rfl) rfl) ?_
  refine Ch.oo rfl rfl rfl (ok_extract rfl (vl rfl) rfl) ?_
  refine Ch.as rfl rfl rfl rfl rfl ?_
  refine Ch.as rfl rfl rfl rfl rfl ?_
  refine Ch.nil (Fin.go ?_)
  refine Tr.drop 0 ?_
  refine Tr.w4 6 7 9 10 rfl rfl rfl rfl ?_
  refine Tr.seq (Tr.regT ?_)
  refine TO.mv rfl rfl rfl rfl rfl ?_
  refine TO.mv rfl rfl rfl rfl rfl ?_
  refine TO.oo rfl rfl rfl (ok_call rfl (w_entity (by omega)) ⟨ke rfl, trivial⟩) ?_
  refine TO.mv rfl rfl rfl rfl rfl ?_
  refine TO.oo rfl rfl rfl (ok_call rfl (w_FactsN hz1.norm hz1.fits ⟨by omega, by omega⟩ ⟨by omega, by omega⟩ (numsTo_asc _) (numsTo_in _) (by rw [numsTo_len]; omega)) ⟨ke rfl, ke rfl, ke rfl, ke rfl, trivial⟩) ?_
  refine TO.ex 52 rfl (fun a1 => TO.fact 52 rfl fun ha1 => ?_)
  obtain ⟨ha1, ha1o⟩ := ha1
  have ha1l : a1.length ≤ 30 := by rw [ha1.length_eq]; exact Nat.le_trans (List.length_filterMap_le _ _) (Nat.le_trans (dec_len ..) (by rw [numsTo_len]; omega))
  refine TO.mv rfl rfl rfl rfl rfl ?_
  refine TO.oo rfl rfl rfl (ok_extract rfl (vl rfl) rfl) ?_
  refine TO.oo rfl rfl rfl (ok_extract rfl (vl rfl) rfl) ?_
  refine TO.as rfl rfl rfl rfl rfl ?_
  refine TO.as rfl rfl rfl rfl rfl ?_
  refine TO.nil (Fin.go ?_)
  refine Tr.w6 6 7 9 10 11 12 rfl rfl rfl rfl rfl rfl ?_
  refine Tr.seq (Tr.regT ?_)
  refine TO.mv rfl rfl rfl rfl rfl ?_
  refine TO.mv rfl rfl rfl rfl rfl ?_
  refine TO.oo rfl rfl rfl (ok_call rfl (w_entity (by omega)) ⟨ke rfl, trivial⟩) ?_
  refine TO.mv rfl rfl rfl rfl rfl ?_
  refine TO.oo rfl rfl rfl (ok_call rfl (w_FactsN (l := (normL (z1 ++ [(onDay z2 ((day.tmod 12) + 1 + s2.val 5))]))) (norm_okP hla.1 (by simp; omega)) (fun g hg => hla.2 g (mem_normL.1 hg)) ⟨by omega, by omega⟩ ⟨by omega, by omega⟩ (numsTo_asc _) (numsTo_in _) (by rw [numsTo_len]; omega)) ⟨ke rfl, ke rfl, ke rfl, ke rfl, trivial⟩) ?_
  refine TO.ex 60 rfl (fun b1 => TO.fact 60 rfl fun hb1 => ?_)
  obtain ⟨hb1, hb1o⟩ := hb1
  have hb1l : b1.length ≤ 30 := by rw [hb1.length_eq]; exact Nat.le_trans (List.length_filterMap_le _ _) (Nat.le_trans (dec_len ..) (by rw [numsTo_len]; omega))
  refine TO.mv rfl rfl rfl rfl rfl ?_
  refine TO.oo rfl rfl rfl (ok_extract rfl (vl rfl) rfl) ?_
  refine TO.oo rfl rfl rfl (ok_extract rfl (vl rfl) rfl) ?_
  refine TO.as rfl rfl rfl rfl rfl ?_
  refine TO.as rfl rfl rfl rfl rfl ?_
  refine TO.nil (Fin.go ?_)
  refine Tr.w7 6 7 10 11 12 13 14 rfl rfl rfl rfl rfl rfl rfl ?_
  refine Tr.seq (Tr.regT ?_)
  refine TO.mv rfl rfl rfl rfl rfl ?_
  refine TO.mv rfl rfl rfl rfl rfl ?_
  refine TO.oo rfl rfl rfl (ok_call rfl (w_entity (by omega)) ⟨ke rfl, trivial⟩) ?_
  refine TO.mv rfl rfl rfl rfl rfl ?_
  refine TO.oo rfl rfl rfl (ok_call rfl (w_FactsN hz1.norm hz1.fits ⟨by omega, by omega⟩ ⟨by omega, by omega⟩ (numsTo_asc _) (numsTo_in _) (by rw [numsTo_len]; omega)) ⟨ke rfl, ke rfl, ke rfl, ke rfl, trivial⟩) ?_
  refine TO.ex 68 rfl (fun c1 => TO.fact 68 rfl fun hc1 => ?_)
  obtain ⟨hc1, hc1o⟩ := hc1
  have hc1l : c1.length ≤ 30 := by rw [hc1.length_eq]; exact Nat.le_trans (List.length_filterMap_le _ _) (Nat.le_trans (dec_len ..) (by rw [numsTo_len]; omega))
  refine TO.mv rfl rfl rfl rfl rfl ?_
  refine TO.oo rfl rfl rfl (ok_extract rfl (vl rfl) rfl) ?_
  refine TO.oo rfl rfl rfl (ok_extract rfl (vl rfl) rfl) ?_
  refine TO.as rfl rfl rfl rfl rfl ?_
  refine TO.as rfl rfl rfl rfl rfl ?_
  refine TO.nil (Fin.go ?_)
  refine Tr.w7 10 11 12 13 14 15 16 rfl rfl rfl rfl rfl rfl rfl ?_
  refine Tr.seq (Tr.seq ?_)
  have hsame := facts_same (x := z1) (y := (normL (z1 ++ [(onDay z2 ((day.tmod 12) + 1 + s2.val 5))]))) (t := (day.tmod 12)) (o := 100) hz1.norm.adj (norm_adj _) (fun g hg => late_mem (by omega) hg) ha1 hb1
  have hold := facts_older hz1.norm.adj (show (2 : Int) ≤ 100 by omega) ha1 hc1
  refine Tr.reg0 ?_
  refine Ch.mv rfl rfl rfl rfl rfl ?_
  refine Ch.oo rfl rfl rfl (ok_int rfl (vl rfl) (vl rfl) rfl) ?_
  refine Ch.mv rfl rfl rfl rfl rfl ?_
  refine Ch.cs 73 rfl (fun h2 q2 => ?_) (fun h2 q2 => ?_)
  ·
   exfalso; omega
  ·
   refine Ch.ym h2 rfl rfl rfl rfl rfl rfl rfl ?_
   refine Ch.y h2 rfl rfl rfl rfl rfl (ok_int rfl (vl rfl) (vl rfl) rfl) ?_
   refine Ch.oo rfl rfl rfl (ok_pick_f rfl (vl rfl) h2 (vl rfl)) ?_
   refine Ch.mv rfl rfl rfl rfl rfl ?_
   refine Ch.cs 77 rfl (fun h3 q3 => ?_) (fun h3 q3 => ?_)
   ·
    exfalso; omega
   ·
    refine Ch.ym h3 rfl rfl rfl rfl rfl rfl rfl ?_
    refine Ch.y h3 rfl rfl rfl rfl rfl (ok_int rfl (vl rfl) (vl rfl) rfl) ?_
    refine Ch.oo rfl rfl rfl (ok_pick_f rfl (vl rfl) h3 (vl rfl)) ?_
    refine Ch.mv rfl rfl rfl rfl rfl ?_
    refine Ch.cs 81 rfl (fun h4 q4 => ?_) (fun h4 q4 => ?_)
    ·
     exfalso; omega
    ·
     refine Ch.ym h4 rfl rfl rfl rfl rfl rfl rfl ?_
     refine Ch.y h4 rfl rfl rfl rfl rfl (ok_int rfl (vl rfl) (vl rfl) rfl) ?_
     refine Ch.oo rfl rfl rfl (ok_pick_f rfl (vl rfl) h4 (vl rfl)) ?_
     refine Ch.mv rfl rfl rfl rfl rfl ?_
     refine Ch.cs 85 rfl (fun h5 q5 => ?_) (fun h5 q5 => ?_)
     ·
      exfalso; omega
     ·
      refine Ch.ym h5 rfl rfl rfl rfl rfl rfl rfl ?_
      first
       | refine Ch.y h5 rfl rfl rfl rfl rfl (ok_lenm rfl Tryz.underlying29 (vl rfl)) ?_
       | refine Ch.y h5 rfl rfl rfl rfl rfl (ok_len rfl Tryz.underlying29 (vl rfl)) ?_
      refine Ch.ym h5 rfl rfl rfl rfl rfl rfl rfl ?_
      first
       | refine Ch.y h5 rfl rfl rfl rfl rfl (ok_lenm rfl Tryz.underlying29 (vl rfl)) ?_
       | refine Ch.y h5 rfl rfl rfl rfl rfl (ok_len rfl Tryz.underlying29 (vl rfl)) ?_
      refine Ch.y h5 rfl rfl rfl rfl rfl (ok_int rfl (vl rfl) (vl rfl) rfl) ?_
      refine Ch.oo rfl rfl rfl (ok_pick_f rfl (vl rfl) h5 (vl rfl)) ?_
      refine Ch.nil (Fin.go ?_)
      refine Tr.w4 11 13 15 91 rfl rfl rfl rfl ?_
      refine Tr.cn rfl (fun h6 q6 => ?_) (fun h6 q6 => ?_)
      ·
       exfalso; omega
      ·
       refine Tr.skip (Fin.go (Tr.seq (Tr.reg0 ?_)))
       refine Ch.mv rfl rfl rfl rfl rfl ?_
       refine Ch.mv rfl rfl rfl rfl rfl ?_
       refine Ch.oo rfl rfl rfl (ok_call rfl (w_Changes (by omega) (by omega)) ⟨ke rfl, ke rfl, trivial⟩) ?_
       refine Ch.mv rfl rfl rfl rfl rfl ?_
       refine Ch.oo rfl rfl rfl (ok_extract rfl (vl rfl) rfl) ?_
       refine Ch.oo rfl rfl rfl (ok_extract rfl (vl rfl) rfl) ?_
       refine Ch.as rfl rfl rfl rfl rfl ?_
       refine Ch.as rfl rfl rfl rfl rfl ?_
       refine Ch.nil (Fin.go (Tr.seq (Tr.reg0 ?_)))
       refine Ch.mv rfl rfl rfl rfl rfl ?_
       refine Ch.mv rfl rfl rfl rfl rfl ?_
       refine Ch.oo rfl rfl rfl (ok_call rfl (w_Changes (by omega) (by omega)) ⟨ke rfl, ke rfl, trivial⟩) ?_
       refine Ch.mv rfl rfl rfl rfl rfl ?_
       refine Ch.oo rfl rfl rfl (ok_extract rfl (vl rfl) rfl) ?_
       refine Ch.oo rfl rfl rfl (ok_extract rfl (vl rfl) rfl) ?_
       refine Ch.as rfl rfl rfl rfl rfl ?_
       refine Ch.as rfl rfl rfl rfl rfl ?_
       refine Ch.nil (Fin.go ?_)
       refine Tr.w3 17 18 19 rfl rfl rfl ?_
       refine Tr.seq (Tr.reg0 ?_)
       refine Ch.mv rfl rfl rfl rfl rfl ?_
       first
        | refine Ch.oo rfl rfl rfl (ok_lenm rfl Tryz.underlying29 (vl rfl)) ?_
        | refine Ch.oo rfl rfl rfl (ok_len rfl Tryz.underlying29 (vl rfl)) ?_
       refine Ch.oo rfl rfl rfl (ok_int rfl (vl rfl) (vl rfl) rfl) ?_
       refine Ch.mv rfl rfl rfl rfl rfl ?_
       refine Ch.cs 107 rfl (fun h7 q7 => ?_) (fun h7 q7 => ?_)
       ·
        refine Ch.ym h7 rfl rfl rfl rfl rfl rfl rfl ?_
        first
         | refine Ch.y h7 rfl rfl rfl rfl rfl (ok_lenm rfl Tryz.underlying29 (vl rfl)) ?_
         | refine Ch.y h7 rfl rfl rfl rfl rfl (ok_len rfl Tryz.underlying29 (vl rfl)) ?_
        refine Ch.y h7 rfl rfl rfl rfl rfl (ok_int rfl (vl rfl) (vl rfl) rfl) ?_
        refine Ch.oo rfl rfl rfl (ok_pick_t rfl (vl rfl) h7 (vl rfl)) ?_
        refine Ch.mv rfl rfl rfl rfl rfl ?_
        refine Ch.cs 112 rfl (fun h8 q8 => ?_) (fun h8 q8 => ?_)
        ·
         refine Ch.ym h8 rfl rfl rfl rfl rfl rfl rfl ?_
         first
          | refine Ch.y h8 rfl rfl rfl rfl rfl (ok_lenm rfl Tryz.underlying29 (vl rfl)) ?_
          | refine Ch.y h8 rfl rfl rfl rfl rfl (ok_len rfl Tryz.underlying29 (vl rfl)) ?_
         refine Ch.y h8 rfl rfl rfl rfl rfl (ok_int rfl (vl rfl) (vl rfl) rfl) ?_
         refine Ch.oo rfl rfl rfl (ok_pick_t rfl (vl rfl) h8 (vl rfl)) ?_
         refine Ch.mv rfl rfl rfl rfl rfl ?_
         refine Ch.cs 117 rfl (fun h9 q9 => ?_) (fun h9 q9 => ?_)
         ·
          refine Ch.y h9 rfl rfl rfl rfl rfl (ok_call rfl (w_awake) trivial) ?_
          refine Ch.oo rfl rfl rfl (ok_pick_t rfl (vl rfl) h9 (vl rfl)) ?_
          refine Ch.as rfl rfl rfl rfl rfl ?_
          refine Ch.nil (Fin.go ?_)
          refine Tr.w1 4 rfl ?_
          refine Tr.ret ?_
          refine Fin.ret1 rfl (OutW.bse _ _) rfl ?_
          · first | exact Pr.le_refl _ | (refine int_eq ?_; simp_all; done) | (refine bool_eq ?_; simp_all; done) | (refine bool_eq ?_; simp_all; omega) | (refine int_eq ?_; omega)
         ·
          refine Ch.nt h9 rfl rfl rfl rfl rfl ?_
          refine Ch.oo rfl rfl rfl (ok_pick_f rfl (vl rfl) h9 (vl rfl)) ?_
          refine Ch.as rfl rfl rfl rfl rfl ?_
          refine Ch.nil (Fin.go ?_)
          refine Tr.w1 4 rfl ?_
          refine Tr.ret ?_
          refine Fin.ret1 rfl (OutW.bse _ _) rfl ?_
          · first | exact Pr.le_refl _ | (refine int_eq ?_; simp_all; done) | (refine bool_eq ?_; simp_all; done) | (refine bool_eq ?_; simp_all; omega) | (refine int_eq ?_; omega)
        ·
         iterate 3 refine Ch.nt h8 rfl rfl rfl rfl rfl ?_
         refine Ch.oo rfl rfl rfl (ok_pick_f rfl (vl rfl) h8 (vl rfl)) ?_
         refine Ch.mv rfl rfl rfl rfl rfl ?_
         refine Ch.nd rfl rfl rfl rfl rfl rfl ?_
         refine Ch.oo rfl rfl rfl (ok_pick_f rfl (vl rfl) rfl (vl rfl)) ?_
         refine Ch.as rfl rfl rfl rfl rfl ?_
         refine Ch.nil (Fin.go ?_)
         refine Tr.w1 4 rfl ?_
         refine Tr.ret ?_
         refine Fin.ret1 rfl (OutW.bse _ _) rfl ?_
         · first | exact Pr.le_refl _ | (refine int_eq ?_; simp_all; done) | (refine bool_eq ?_; simp_all; done) | (refine bool_eq ?_; simp_all; omega) | (refine int_eq ?_; omega)
       ·
        iterate 3 refine Ch.nt h7 rfl rfl rfl rfl rfl ?_
        refine Ch.oo rfl rfl rfl (ok_pick_f rfl (vl rfl) h7 (vl rfl)) ?_
        refine Ch.mv rfl rfl rfl rfl rfl ?_
        iterate 3 refine Ch.nd rfl rfl rfl rfl rfl rfl ?_
        refine Ch.oo rfl rfl rfl (ok_pick_f rfl (vl rfl) rfl (vl rfl)) ?_
        refine Ch.mv rfl rfl rfl rfl rfl ?_
        refine Ch.nd rfl rfl rfl rfl rfl rfl ?_
        refine Ch.oo rfl rfl rfl (ok_pick_f rfl (vl rfl) rfl (vl rfl)) ?_
        refine Ch.as rfl rfl rfl rfl rfl ?_
        refine Ch.nil (Fin.go ?_)
        refine Tr.w1 4 rfl ?_
        refine Tr.ret ?_
        refine Fin.ret1 rfl (OutW.bse _ _) rfl ?_
        · first | exact Pr.le_refl _ | (refine int_eq ?_; simp_all; done) | (refine bool_eq ?_; simp_all; done) | (refine bool_eq ?_; simp_all; omega) | (refine int_eq ?_; omega)
end Go.Proofs.YthmnoekgicggnaaGreat
namespace Go.Proofs.YthmnoekgicggnaaGreat
open Go Go.RowKit Cp Go.ChangeShapes Go.WideShapes Go.ChangeAt

theorem own0 : ownKnob Tryz.prog.godebug = none := by kernel_rfl
theorem laidOut0 : laidOutB Tryz.prog = true := by kernel_rfl
theorem u8_in {n : Int} (h : (Lit.int .u8 n).wf = true) : 0 ≤ n ∧ n < 256 := by
  simp only [Lit.wf, Bool.and_eq_true, decide_eq_true_eq] at h
  have h1 : IntKind.u8.min = 0 := rfl
  have h2 : IntKind.u8.max = 255 := rfl
  omega
theorem i64_in {n : Int} (h : (Lit.int .i64 n).wf = true) : InI n := by
  simp only [Lit.wf, Bool.and_eq_true, decide_eq_true_eq] at h
  have h1 : IntKind.i64.min = -9223372036854775808 := rfl
  have h2 : IntKind.i64.max = 9223372036854775807 := rfl
  unfold InI; omega
theorem opens_ints {P : Program} {t e : TypeId} (ht : P.underlying t = some (.slice e)) (he : P.underlying e = some (.int .i64)) (hc : P.cellsOf e = 1) : Opens P t (fun l : List Int => l.length ≤ maxLen ∧ ∀ n ∈ l, InI n) (fun l => [ints l]) :=
  (opens_slice ht hc (opens_int he)).map id (fun _ h => ⟨h.2, fun n hn => i64_in (h.1 n hn)⟩) (fun _ => rfl)

end Go.Proofs.YthmnoekgicggnaaGreat
namespace Go.Proofs.YthmnoekgicggnaaGreat
open Go Go.RowKit Cp Go.ChangeShapes Go.WideShapes Go.ChangeAt
set_option maxRecDepth 40000 in
theorem assetLate_lifted (os : Os) (started : os.Started) (H : Type) (enc : TypeId × Value → H) :
    ReturnsInHanded {} Tryz.checked os 7 .any (Rows.assetLateSpec.pre6 enc Tryz.prog Tryz.f7 Rows.assetLateRow.domain false) (Rows.assetLateSpec.post enc Tryz.prog Tryz.f7 false true false false) := by
  refine returnsInHanded_of_change (C := Tryz.checked) own0 started (by kernel_rfl) Tryz.func7
    (ChangeSpec.witness6 (enc := enc) (C := Tryz.checked) false ⟨#[], #[.slice none 0 0, .int .u8 0], []⟩ 8 (by kernel_rfl) (by kernel_rfl) (by kernel_rfl) (by kernel_rfl)) ?_
  intro W base args ds gs before hval0 hW hcnd _
  have hval : ∀ (j : Nat) t v, Tryz.f7.params[j]? = some t → args[j]? = some v → Value.okWide Tryz.prog W .any base t v := hval0
  have hW' := hW
  obtain ⟨p, q, hA0, hV, hpq, hfz, hnd⟩ := hW
  have hA : DataW.TrodAll enc Tryz.prog W 0 (fun _ => true) true Tryz.f7.params.toList args.toList ds p := hA0
  have hA' := hA
  rw [Tryz.params7] at hA hval
  obtain ⟨v0, v1, d0, d1, p0, p1, rfl, rfl, hp, h0, h1⟩ := trodAll_two hA
  obtain ⟨rfl, rfl⟩ := trodVars_none hV
  obtain ⟨a0, _, e0⟩ := arg_one (opens_ints Tryz.underlying22 Tryz.underlying3 (by kernel_rfl)) h0 (by obtain ⟨_, _, _, rfl⟩ := okWide_slice Tryz.underlying22 (hval 0 22 v0 rfl rfl); rfl)
  obtain ⟨a1, hra, e1⟩ := arg_one (opens_int Tryz.underlying5) h1 (by obtain ⟨_, rfl⟩ := okWide_int Tryz.underlying5 (hval 1 5 v1 rfl rfl); rfl)
  refine ((w_AssetLate (u8_in hra)).2 noM W [v0, v1] (noM_bd W) ⟨e0, e1, trivial⟩).mono fun e W' ⟨v, he, hv, hb⟩ => ?_
  subst he
  obtain rfl : v = .bool true := hv
  exact ⟨_, rfl, law_post laidOut0 (by kernel_rfl) rfl Tryz.underlying4 rfl hA' (by rw [hpq]; simp) hW' rfl hb⟩
set_option maxRecDepth 40000 in
theorem assetLate_holds : Rows.AssetLateSaid :=
  OpenClaim.holds_of_wide 7 Tryz.f7 rfl rfl rfl rfl rfl rfl rfl ⟨rfl, rfl, rfl, rfl, rfl⟩ rfl rfl rfl rfl rfl (by kernel_rfl) Tryz.func7 (by kernel_rfl)
    (of_decide_eq_true (by kernel_rfl)) (by unfold Func.isWrapper; first | (rw [if_pos (by decide +kernel)]; kernel_rfl) | (rw [if_neg (by decide +kernel)]; exact ⟨rfl, rfl⟩))
    (fun os started H enc _ => assetLate_lifted os started H enc)
end Go.Proofs.YthmnoekgicggnaaGreat
