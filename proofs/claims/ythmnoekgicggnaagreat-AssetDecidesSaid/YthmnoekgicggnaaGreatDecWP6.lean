/-
  Part 6 of the texts that prove this claim, merged.
-/
import Derived.Test.YthmnoekgicggnaaGreatDecWP5
set_option linter.all false
namespace Go.Proofs.YthmnoekgicggnaaGreat
open Go Go.RowKit Cp
instance : Inhabited Fct := ⟨⟨0, [], 0, 0, 0, 0, [], 0⟩⟩
set_option maxRecDepth 20000 in
theorem w_sinsF {l : List Fct} {c : Fct × Fct → Int} {b0 cap len : Nat} {sp : List Value} {a b : Int} (hln : l.length = len) (hll : len ≤ 1000000) (hw : Go.Sort.SWO (ltc c)) (h0 : 0 ≤ a) (hab : a ≤ b) (hb : b ≤ len) : FunM Tryz.prog 105 [is (.slice (some ⟨b0, 0, none⟩) len cap), int a, int b, clo Tryz.prog (fun x : Fct × Fct => [agg (rowFc x.1), agg (rowFc x.2)]) (fun x => int (c x))] (unit_) (cellsRes true b0 40 ((l.map rowFc).flatten ++ sp.map is)) (fun _ => relRes b0 40 rowFc (SortL c a b l) (sp.map is)) := by
 refine FunM.of Tryz.func105 rfl rfl (by exact Nat.le_of_ble_eq_true rfl) fun M0 w0 S rs M1 w1 => ?_
 refine Tr.seq ?_
 refine Tr.reg0 ?_
 refine Ch.op rfl rfl (by decide) (ok_move rfl (vl rfl)) ?_
 first
  | (refine Ch.op rfl rfl (by decide) (ok_add rfl (vl rfl) (vl rfl) ?hin) ?_; case hin => unfold InI; omega)
  | refine Ch.op rfl rfl (by decide) (ok_int rfl (vl rfl) (vl rfl) rfl) ?_
 refine Ch.op rfl rfl (by decide) (ok_assign rfl (vl rfl)) ?_
 refine Ch.nil ?_
 refine Fin.go ?_
 refine Tr.block ?_
 refine Tr.loopD2V0 [(0, _), (1, _), (2, _), (3, _)] ⟨⟨_, rfl, Pr.le_refl _⟩, ⟨_, rfl, Pr.le_refl _⟩, ⟨_, rfl, Pr.le_refl _⟩, ⟨_, rfl, Pr.le_refl _⟩, trivial⟩ (fun (i : Int) (st : List Fct) => [(8, int i)]) (fun (i : Int) (st : List Fct) => Hp M0 w0 S (cellsRes true b0 40 ((st.map rowFc).flatten ++ sp.map is) :: extRes M1 w1 :: rs)) (fun (i : Int) (st : List Fct) => a < i ∧ st.length = len ∧ Go.Sort.insOuter (ltc c) a.toNat b.toNat i.toNat st.toArray = Go.Sort.insertionSort (ltc c) l.toArray a.toNat b.toNat) (fun (i : Int) (st : List Fct) => (b - i).toNat) (a + 1) (l)  (⟨by omega, by omega, inso_start h0⟩) ⟨⟨_, rfl, Pr.le_refl _⟩, trivial⟩ (fun _ _ h => h) ?_
 rintro i st  ⟨hi1, hsl, hso⟩
 refine Tr.seq ?_
 refine Tr.seq ?_
 refine Tr.reg0 ?_
 refine Ch.op rfl rfl (by decide) (ok_move rfl (vl rfl)) ?_
 refine Ch.op rfl rfl (by decide) (ok_move rfl (vl rfl)) ?_
 refine Ch.op rfl rfl (by decide) (ok_int rfl (vl rfl) (vl rfl) rfl) ?_
 refine Ch.nil ?_
 refine Fin.go ?_
 refine Tr.cond rfl (fun h1 => ?_) (fun h1 => ?_)
 ·
  have q1 := Nrm.nrm h1
  have hib : i < b := of_decide_eq_true h1
  refine Tr.skip ?_
  refine Fin.go ?_
  refine Tr.seq ?_
  refine Tr.block ?_
  refine Tr.seq ?_
  refine Tr.reg0 ?_
  refine Ch.op rfl rfl (by decide) (ok_move rfl (vl rfl)) ?_
  refine Ch.op rfl rfl (by decide) (ok_assign rfl (vl rfl)) ?_
  refine Ch.nil ?_
  refine Fin.go ?_
  refine Tr.block ?_
  refine Tr.loopD2V0 [(0, _), (1, _), (2, _), (3, _), (8, _)] ⟨⟨_, rfl, Pr.le_refl _⟩, ⟨_, rfl, Pr.le_refl _⟩, ⟨_, rfl, Pr.le_refl _⟩, ⟨_, rfl, Pr.le_refl _⟩, ⟨_, rfl, Pr.le_refl _⟩, trivial⟩ (fun (j : Int) (st2 : List Fct) => [(9, int j)]) (fun (j : Int) (st2 : List Fct) => Hp M0 w0 S (cellsRes true b0 40 ((st2.map rowFc).flatten ++ sp.map is) :: extRes M1 w1 :: rs)) (fun (j : Int) (st2 : List Fct) => (a ≤ j ∧ j ≤ i) ∧ st2.length = len ∧ Go.Sort.insInner (ltc c) a.toNat j.toNat st2.toArray = Go.Sort.insInner (ltc c) a.toNat i.toNat st.toArray) (fun (j : Int) (st2 : List Fct) => (j - a).toNat) (i) (st)  (⟨⟨by omega, by omega⟩, hsl, rfl⟩) ⟨⟨_, rfl, Pr.le_refl _⟩, trivial⟩ (fun _ _ h => h) ?_
  rintro j st2  ⟨⟨hj1, hj2⟩, hsl2, hso2⟩
  refine Tr.seq ?_
  refine Tr.seq ?_
  refine Tr.reg1 mixed (by kernel_rfl) ?_
  refine Ch.op rfl rfl (by decide) (ok_move rfl (vl rfl)) ?_
  refine Ch.op rfl rfl (by decide) (ok_move rfl (vl rfl)) ?_
  refine Ch.op rfl rfl (by decide) (ok_int rfl (vl rfl) (vl rfl) rfl) ?_
  refine Ch.op rfl rfl (by decide) (ok_move rfl (vl rfl)) ?_
  refine Ch.cases 21 rfl (fun h2 => ?_) (fun h2 => ?_)
  ·
   have q2 := Nrm.nrm h2
   refine Ch.yes rfl rfl rfl h2 rfl (by decide) (ok_move rfl (vl rfl)) ?_
   refine Ch.yes rfl rfl rfl h2 rfl (by decide) (ok_move rfl (vl rfl)) ?_
   refine Ch.yes rfl rfl rfl h2 rfl (by decide) (ok_move rfl (vl rfl)) ?_
   refine Ch.yes rfl rfl rfl h2 rfl (by decide) (okp_indexSl rfl Tryz.underlying29 sz40 (vl rfl) (vl rfl) (by omega) (by omega)) ?_
   refine Ch.yes rfl rfl rfl h2 rfl (by decide) (ok_rd 0 rfl (rd_loadA rfl agg40 sz40 (vl rfl) (cells_atG (f := rowFc) (fun _ => rfl) (by omega)) rfl)) ?_
   refine Ch.yes rfl rfl rfl h2 rfl (by decide) (ok_move rfl (vl rfl)) ?_
   refine Ch.yes rfl rfl rfl h2 rfl (by decide) (ok_move rfl (vl rfl)) ?_
   first
    | (refine Ch.yes rfl rfl rfl h2 rfl (by decide) (ok_sub rfl (vl rfl) (vl rfl) ?hin) ?_; case hin => unfold InI; omega)
    | refine Ch.yes rfl rfl rfl h2 rfl (by decide) (ok_int rfl (vl rfl) (vl rfl) rfl) ?_
   refine Ch.yes rfl rfl rfl h2 rfl (by decide) (okp_indexSl rfl Tryz.underlying29 sz40 (vl rfl) (vl rfl) (by omega) (by omega)) ?_
   refine Ch.yes rfl rfl rfl h2 rfl (by decide) (ok_rd 0 rfl (rd_loadA rfl agg40 sz40 (vl rfl) (cells_atG (f := rowFc) (fun _ => rfl) (by omega)) rfl)) ?_
   refine Ch.yes rfl rfl rfl h2 rfl (by decide) (ok_callc (_, _) rfl (vl rfl) ⟨⟨_, rfl, Pr.le_refl _⟩, ⟨_, rfl, Pr.le_refl _⟩, trivial⟩) ?_
   refine Ch.yes rfl rfl rfl h2 rfl (by decide) (ok_int rfl (vl rfl) (vl rfl) rfl) ?_
   refine Ch.op rfl rfl (by decide) (ok_pick_t rfl (vl rfl) h2 (vl rfl)) ?_
   refine Ch.nil ?_
   refine Fin.go ?_
   refine Tr.weak [(0, _), (1, _), (2, _), (3, _), (8, _), (9, _), (34, _)] ⟨⟨_, rfl, Pr.le_refl _⟩, ⟨_, rfl, Pr.le_refl _⟩, ⟨_, rfl, Pr.le_refl _⟩, ⟨_, rfl, Pr.le_refl _⟩, ⟨_, rfl, Pr.le_refl _⟩, ⟨_, rfl, Pr.le_refl _⟩, ⟨_, rfl, Pr.le_refl _⟩, trivial⟩ ?_
   refine Tr.cond rfl (fun h3 => ?_) (fun h3 => ?_)
   ·
    have q3 := Nrm.nrm h3
    have := h3
    refine Tr.skip ?_
    refine Fin.go ?_
    refine Tr.seq ?_
    refine Tr.block ?_
    refine Tr.regX mixed [none, none, none, none, none, none, none, none, none, some (0, 0, false, 0), none, none, none, some (0, 0, false, 0), none, some (0, 0, true, 0), none, some (0, 0, true, 0)] (by kernel_rfl) ?_
    refine Cx.op rfl rfl (by decide) (fun _ => ok_move rfl (vl rfl)) ?_
    refine Cx.op rfl rfl (by decide) (fun _ => ok_move rfl (vl rfl)) ?_
    refine Cx.op rfl rfl (by decide) (fun _ => ok_move rfl (vl rfl)) ?_
    refine Cx.op rfl rfl (by decide) (fun _ => ok_move rfl (vl rfl)) ?_
    first
     | (refine Cx.op rfl rfl (by decide) (fun _ => ok_sub rfl (vl rfl) (vl rfl) ?hin) ?_; case hin => unfold InI; omega)
     | refine Cx.op rfl rfl (by decide) (fun _ => ok_int rfl (vl rfl) (vl rfl) rfl) ?_
    refine Cx.op rfl rfl (by decide) (fun _ => ok_move rfl (vl rfl)) ?_
    refine Cx.op rfl rfl (by decide) (fun _ => ok_move rfl (vl rfl)) ?_
    first
     | (refine Cx.op rfl rfl (by decide) (fun _ => ok_sub rfl (vl rfl) (vl rfl) ?hin) ?_; case hin => unfold InI; omega)
     | refine Cx.op rfl rfl (by decide) (fun _ => ok_int rfl (vl rfl) (vl rfl) rfl) ?_
    refine Cx.op rfl rfl (by decide) (fun _ => okp_indexSl rfl Tryz.underlying29 sz40 (vl rfl) (vl rfl) (by omega) (by omega)) ?_
    refine Cx.rd 0 rfl rfl rfl (by decide) (rd_loadA rfl agg40 sz40 (vl rfl) (cells_atG (f := rowFc) (fun _ => rfl) (by omega)) rfl) ?_
    refine Cx.op rfl rfl (by decide) (fun _ => ok_move rfl (vl rfl)) ?_
    refine Cx.op rfl rfl (by decide) (fun _ => ok_move rfl (vl rfl)) ?_
    refine Cx.op rfl rfl (by decide) (fun _ => okp_indexSl rfl Tryz.underlying29 sz40 (vl rfl) (vl rfl) (by omega) (by omega)) ?_
    refine Cx.rd 0 rfl rfl rfl (by decide) (rd_loadA rfl agg40 sz40 (vl rfl) (cells_atG (f := rowFc) (fun _ => rfl) (by omega)) rfl) ?_
    refine Cx.op rfl rfl (by decide) (fun _ => okp_indexSl rfl Tryz.underlying29 sz40 (vl rfl) (vl rfl) (by omega) (by omega)) ?_
    refine Cx.ef0 0 rfl rfl (ef_store rfl rfl (vl rfl) (VL.le (vl rfl) (agg_cellsP _)) sz40 rfl (by rw [cells_len (sz := 8) (fun _ => rfl)]; first | omega | (simp only [List.length_set]; omega)) (cells_setG (f := rowFc) (fun _ => rfl) (by first | omega | (simp only [List.length_set]; omega)))) ?_
    refine Cx.op rfl rfl (by decide) (fun _ => okp_indexSl rfl Tryz.underlying29 sz40 (vl rfl) (vl rfl) (by omega) (by omega)) ?_
    refine Cx.ef0 0 rfl rfl (ef_store rfl rfl (vl rfl) (VL.le (vl rfl) (agg_cellsP _)) sz40 rfl (by rw [cells_len (sz := 8) (fun _ => rfl)]; first | omega | (simp only [List.length_set]; omega)) (cells_setG (f := rowFc) (fun _ => rfl) (by first | omega | (simp only [List.length_set]; omega)))) ?_
    refine Cx.nil ⟨rfl, ?_⟩
    refine FinX.done (AllC.cons (AllC.cons (AllC.map _))) ?_
    refine Fin.block ?_
    refine Fin.go ?_
    refine Tr.weak [(0, _), (1, _), (2, _), (3, _), (8, _), (9, _)] ⟨⟨_, rfl, Pr.le_refl _⟩, ⟨_, rfl, Pr.le_refl _⟩, ⟨_, rfl, Pr.le_refl _⟩, ⟨_, rfl, Pr.le_refl _⟩, ⟨_, rfl, Pr.le_refl _⟩, ⟨_, rfl, Pr.le_refl _⟩, trivial⟩ ?_
    refine Tr.reg0 ?_
    refine Ch.op rfl rfl (by decide) (ok_move rfl (vl rfl)) ?_
    first
     | (refine Ch.op rfl rfl (by decide) (ok_sub rfl (vl rfl) (vl rfl) ?hin) ?_; case hin => unfold InI; omega)
     | refine Ch.op rfl rfl (by decide) (ok_int rfl (vl rfl) (vl rfl) rfl) ?_
    refine Ch.op rfl rfl (by decide) (ok_assign rfl (vl rfl)) ?_
    refine Ch.nil ?_
    exact Fin.famD2V0 (j - 1) (_)  (⟨⟨⟨by omega, by omega⟩, by simp only [List.length_set]; exact hsl2, by rw [ins_go h0 (by omega) rfl (by omega) (by omega) (by assumption)]; exact hso2⟩, by omega⟩) ⟨⟨_, rfl, Pr.le_refl _⟩, ⟨_, rfl, Pr.le_refl _⟩, ⟨_, rfl, Pr.le_refl _⟩, ⟨_, rfl, Pr.le_refl _⟩, ⟨_, rfl, Pr.le_refl _⟩, ⟨_, rfl, Pr.le_refl _⟩, trivial⟩ (fun _ _ h => h)
   ·
    have q3 := Nrm.nrm h3
    have := h3
    refine Tr.exit ?_
    refine Fin.then_exit ?_
    refine Fin.then_exit ?_
    refine Fin.block_here ?_
    refine Fin.block ?_
    refine Fin.go ?_
    refine Tr.reg0 ?_
    refine Ch.op rfl rfl (by decide) (ok_move rfl (vl rfl)) ?_
    first
     | (refine Ch.op rfl rfl (by decide) (ok_add rfl (vl rfl) (vl rfl) ?hin) ?_; case hin => unfold InI; omega)
     | refine Ch.op rfl rfl (by decide) (ok_int rfl (vl rfl) (vl rfl) rfl) ?_
    refine Ch.op rfl rfl (by decide) (ok_assign rfl (vl rfl)) ?_
    refine Ch.nil ?_
    have hfin : st2.toArray = Go.Sort.insInner (ltc c) a.toNat j.toNat st2.toArray := by first | exact ins_stopA h0 (by omega) | exact ins_stopB h0 (by omega) rfl (by omega) (by omega) (Int.not_lt.2 (by assumption))
    exact Fin.famD2V0 (i + 1) (st2)  (⟨⟨by omega, hsl2, by rw [← hso, ← inso_go (by omega) hib, ← hso2]; exact congrArg _ hfin⟩, by omega⟩) ⟨⟨_, rfl, Pr.le_refl _⟩, ⟨_, rfl, Pr.le_refl _⟩, ⟨_, rfl, Pr.le_refl _⟩, ⟨_, rfl, Pr.le_refl _⟩, ⟨_, rfl, Pr.le_refl _⟩, trivial⟩ (fun _ _ h => h)
  ·
   have q2 := Nrm.nrm h2
   refine Ch.no rfl rfl rfl (ne_true h2) rfl (by decide) ?_
   refine Ch.no rfl rfl rfl (ne_true h2) rfl (by decide) ?_
   refine Ch.no rfl rfl rfl (ne_true h2) rfl (by decide) ?_
   refine Ch.no rfl rfl rfl (ne_true h2) rfl (by decide) ?_
   refine Ch.no rfl rfl rfl (ne_true h2) rfl (by decide) ?_
   refine Ch.no rfl rfl rfl (ne_true h2) rfl (by decide) ?_
   refine Ch.no rfl rfl rfl (ne_true h2) rfl (by decide) ?_
   refine Ch.no rfl rfl rfl (ne_true h2) rfl (by decide) ?_
   refine Ch.no rfl rfl rfl (ne_true h2) rfl (by decide) ?_
   refine Ch.no rfl rfl rfl (ne_true h2) rfl (by decide) ?_
   refine Ch.no rfl rfl rfl (ne_true h2) rfl (by decide) ?_
   refine Ch.no rfl rfl rfl (ne_true h2) rfl (by decide) ?_
   refine Ch.op rfl rfl (by decide) (ok_pick_f rfl (vl rfl) h2 (vl rfl)) ?_
   refine Ch.nil ?_
   refine Fin.go ?_
   refine Tr.weak [(0, _), (1, _), (2, _), (3, _), (8, _), (9, _), (34, _)] ⟨⟨_, rfl, Pr.le_refl _⟩, ⟨_, rfl, Pr.le_refl _⟩, ⟨_, rfl, Pr.le_refl _⟩, ⟨_, rfl, Pr.le_refl _⟩, ⟨_, rfl, Pr.le_refl _⟩, ⟨_, rfl, Pr.le_refl _⟩, ⟨_, rfl, Pr.le_refl _⟩, trivial⟩ ?_
   refine Tr.cond rfl (fun h => nomatch h) (fun _ => ?_)
   refine Tr.exit ?_
   refine Fin.then_exit ?_
   refine Fin.then_exit ?_
   refine Fin.block_here ?_
   refine Fin.block ?_
   refine Fin.go ?_
   refine Tr.reg0 ?_
   refine Ch.op rfl rfl (by decide) (ok_move rfl (vl rfl)) ?_
   first
    | (refine Ch.op rfl rfl (by decide) (ok_add rfl (vl rfl) (vl rfl) ?hin) ?_; case hin => unfold InI; omega)
    | refine Ch.op rfl rfl (by decide) (ok_int rfl (vl rfl) (vl rfl) rfl) ?_
   refine Ch.op rfl rfl (by decide) (ok_assign rfl (vl rfl)) ?_
   refine Ch.nil ?_
   have hfin : st2.toArray = Go.Sort.insInner (ltc c) a.toNat j.toNat st2.toArray := by first | exact ins_stopA h0 (by omega) | exact ins_stopB h0 (by omega) rfl (by omega) (by omega) (Int.not_lt.2 (by assumption))
   exact Fin.famD2V0 (i + 1) (st2)  (⟨⟨by omega, hsl2, by rw [← hso, ← inso_go (by omega) hib, ← hso2]; exact congrArg _ hfin⟩, by omega⟩) ⟨⟨_, rfl, Pr.le_refl _⟩, ⟨_, rfl, Pr.le_refl _⟩, ⟨_, rfl, Pr.le_refl _⟩, ⟨_, rfl, Pr.le_refl _⟩, ⟨_, rfl, Pr.le_refl _⟩, trivial⟩ (fun _ _ h => h)
 ·
  have q1 := Nrm.nrm h1
  have hib : ¬ i < b := of_decide_eq_false h1
  rw [inso_stop (by omega) hib] at hso
  refine Tr.exit ?_
  refine Fin.then_exit ?_
  refine Fin.then_exit ?_
  refine Fin.block_here ?_
  refine Fin.closeL (SortL c a b l) 0 rfl (by unfold SortL; rw [hso]; exact Go.Sort.insertionSort_holds hw l.toArray a.toNat b.toNat (by omega) (by simp only [List.size_toArray]; omega)) ?_
  exact Fin.retM0 rfl
set_option maxRecDepth 20000 in
theorem w_ssiftF {l : List Fct} {c : Fct × Fct → Int} {b0 cap len : Nat} {sp : List Value} {lo hi first : Int} (hln : l.length = len) (hll : len ≤ 1000000) (h0 : 0 ≤ lo) (hlo : lo ≤ len) (hf : 0 ≤ first) (hb : first + hi ≤ len) : FunM Tryz.prog 136 [is (.slice (some ⟨b0, 0, none⟩) len cap), int lo, int hi, int first, clo Tryz.prog (fun x : Fct × Fct => [agg (rowFc x.1), agg (rowFc x.2)]) (fun x => int (c x))] (unit_) (cellsRes true b0 40 ((l.map rowFc).flatten ++ sp.map is)) (fun _ => relRes b0 40 rowFc (SiftL c hi first lo l) (sp.map is)) := by
 refine FunM.of Tryz.func136 rfl rfl (by exact Nat.le_of_ble_eq_true rfl) fun M0 w0 S rs M1 w1 => ?_
 refine Tr.seq ?_
 refine Tr.reg0 ?_
 refine Ch.op rfl rfl (by decide) (ok_move rfl (vl rfl)) ?_
 refine Ch.op rfl rfl (by decide) (ok_assign rfl (vl rfl)) ?_
 refine Ch.nil ?_
 refine Fin.go ?_
 refine Tr.block ?_
 refine Tr.loopD2V0 [(0, _), (2, _), (3, _), (4, _)] ⟨⟨_, rfl, Pr.le_refl _⟩, ⟨_, rfl, Pr.le_refl _⟩, ⟨_, rfl, Pr.le_refl _⟩, ⟨_, rfl, Pr.le_refl _⟩, trivial⟩ (fun (r : Int) (st : List Fct) => [(10, int r)]) (fun (r : Int) (st : List Fct) => Hp M0 w0 S (cellsRes true b0 40 ((st.map rowFc).flatten ++ sp.map is) :: extRes M1 w1 :: rs)) (fun (r : Int) (st : List Fct) => (0 ≤ r ∧ r ≤ 1000000) ∧ st.length = len ∧ Go.Sort.siftDown (ltc c) hi.toNat first.toNat r.toNat st.toArray = Go.Sort.siftDown (ltc c) hi.toNat first.toNat lo.toNat l.toArray) (fun (r : Int) (st : List Fct) => (hi - r).toNat) (lo) (l)  (⟨⟨by omega, by omega⟩, by omega, rfl⟩) ⟨⟨_, rfl, Pr.le_refl _⟩, trivial⟩ (fun _ _ h => h) ?_
 rintro r st  ⟨⟨h0r, hr2⟩, hsl, hso⟩
 refine Tr.block ?_
 refine Tr.seq ?_
 refine Tr.reg0 ?_
 refine Ch.op rfl rfl (by decide) (ok_move rfl (vl rfl)) ?_
 first
  | (refine Ch.op rfl rfl (by decide) (ok_mul rfl (vl rfl) (vl rfl) ?hin) ?_; case hin => unfold InI; omega)
  | refine Ch.op rfl rfl (by decide) (ok_int rfl (vl rfl) (vl rfl) rfl) ?_
 first
  | (refine Ch.op rfl rfl (by decide) (ok_add rfl (vl rfl) (vl rfl) ?hin) ?_; case hin => unfold InI; omega)
  | refine Ch.op rfl rfl (by decide) (ok_int rfl (vl rfl) (vl rfl) rfl) ?_
 refine Ch.op rfl rfl (by decide) (ok_assign rfl (vl rfl)) ?_
 refine Ch.nil ?_
 refine Fin.go ?_
 refine Tr.seq ?_
 refine Tr.seq ?_
 refine Tr.reg0 ?_
 refine Ch.op rfl rfl (by decide) (ok_move rfl (vl rfl)) ?_
 refine Ch.op rfl rfl (by decide) (ok_move rfl (vl rfl)) ?_
 refine Ch.op rfl rfl (by decide) (ok_int rfl (vl rfl) (vl rfl) rfl) ?_
 refine Ch.nil ?_
 refine Fin.go ?_
 refine Tr.cond rfl (fun h1 => ?_) (fun h1 => ?_)
 ·
  have q1 := Nrm.nrm h1
  refine Tr.exit ?_
  refine Fin.then_exit ?_
  refine Fin.block_on rfl ?_
  refine Fin.then_exit ?_
  refine Fin.block_here ?_
  refine Fin.closeL (SiftL c hi first lo l) 0 rfl (⟨by omega, by rw [← hso]; first | exact sift_end (by omega) (by omega) | exact sift_stopLa h0r hf (by omega) (by omega) (x := first + r) (y := first + (2 * r + 1)) rfl rfl (by omega) (by omega) (Int.not_lt.2 (by assumption)) | exact sift_stopLb h0r hf (by omega) (u := first + (2 * r + 1)) (v := first + (2 * r + 1) + 1) rfl rfl (by omega) (by omega) (Int.not_lt.2 (by assumption)) (x := first + r) (y := first + (2 * r + 1)) rfl rfl (by omega) (by omega) (Int.not_lt.2 (by assumption)) | exact sift_stopR h0r hf (by omega) (u := first + (2 * r + 1)) (v := first + (2 * r + 1) + 1) rfl rfl (by omega) (by omega) (by assumption) (x := first + r) (y := first + (2 * r + 1 + 1)) rfl rfl (by omega) (by omega) (Int.not_lt.2 (by assumption))⟩) ?_
  exact Fin.retM0 rfl
 ·
  have q1 := Nrm.nrm h1
  refine Tr.skip ?_
  refine Fin.go ?_
  refine Tr.seq ?_
  refine Tr.seq ?_
  refine Tr.reg1 mixed (by kernel_rfl) ?_
  refine Ch.op rfl rfl (by decide) (ok_move rfl (vl rfl)) ?_
  first
   | (refine Ch.op rfl rfl (by decide) (ok_add rfl (vl rfl) (vl rfl) ?hin) ?_; case hin => unfold InI; omega)
   | refine Ch.op rfl rfl (by decide) (ok_int rfl (vl rfl) (vl rfl) rfl) ?_
  refine Ch.op rfl rfl (by decide) (ok_move rfl (vl rfl)) ?_
  refine Ch.op rfl rfl (by decide) (ok_int rfl (vl rfl) (vl rfl) rfl) ?_
  refine Ch.op rfl rfl (by decide) (ok_move rfl (vl rfl)) ?_
  refine Ch.cases 23 rfl (fun h2 => ?_) (fun h2 => ?_)
  ·
   have q2 := Nrm.nrm h2
   refine Ch.yes rfl rfl rfl h2 rfl (by decide) (ok_move rfl (vl rfl)) ?_
   refine Ch.yes rfl rfl rfl h2 rfl (by decide) (ok_move rfl (vl rfl)) ?_
   refine Ch.yes rfl rfl rfl h2 rfl (by decide) (ok_move rfl (vl rfl)) ?_
   refine Ch.yes rfl rfl rfl h2 rfl (by decide) (ok_move rfl (vl rfl)) ?_
   first
    | (refine Ch.yes rfl rfl rfl h2 rfl (by decide) (ok_add rfl (vl rfl) (vl rfl) ?hin) ?_; case hin => unfold InI; omega)
    | refine Ch.yes rfl rfl rfl h2 rfl (by decide) (ok_int rfl (vl rfl) (vl rfl) rfl) ?_
   refine Ch.yes rfl rfl rfl h2 rfl (by decide) (okp_indexSl rfl Tryz.underlying29 sz40 (vl rfl) (vl rfl) (by omega) (by omega)) ?_
   refine Ch.yes rfl rfl rfl h2 rfl (by decide) (ok_rd 0 rfl (rd_loadA rfl agg40 sz40 (vl rfl) (cells_atG (f := rowFc) (fun _ => rfl) (by omega)) rfl)) ?_
   refine Ch.yes rfl rfl rfl h2 rfl (by decide) (ok_move rfl (vl rfl)) ?_
   refine Ch.yes rfl rfl rfl h2 rfl (by decide) (ok_move rfl (vl rfl)) ?_
   refine Ch.yes rfl rfl rfl h2 rfl (by decide) (ok_move rfl (vl rfl)) ?_
   first
    | (refine Ch.yes rfl rfl rfl h2 rfl (by decide) (ok_add rfl (vl rfl) (vl rfl) ?hin) ?_; case hin => unfold InI; omega)
    | refine Ch.yes rfl rfl rfl h2 rfl (by decide) (ok_int rfl (vl rfl) (vl rfl) rfl) ?_
   first
    | (refine Ch.yes rfl rfl rfl h2 rfl (by decide) (ok_add rfl (vl rfl) (vl rfl) ?hin) ?_; case hin => unfold InI; omega)
    | refine Ch.yes rfl rfl rfl h2 rfl (by decide) (ok_int rfl (vl rfl) (vl rfl) rfl) ?_
   refine Ch.yes rfl rfl rfl h2 rfl (by decide) (okp_indexSl rfl Tryz.underlying29 sz40 (vl rfl) (vl rfl) (by omega) (by omega)) ?_
   refine Ch.yes rfl rfl rfl h2 rfl (by decide) (ok_rd 0 rfl (rd_loadA rfl agg40 sz40 (vl rfl) (cells_atG (f := rowFc) (fun _ => rfl) (by omega)) rfl)) ?_
   refine Ch.yes rfl rfl rfl h2 rfl (by decide) (ok_callc (_, _) rfl (vl rfl) ⟨⟨_, rfl, Pr.le_refl _⟩, ⟨_, rfl, Pr.le_refl _⟩, trivial⟩) ?_
   refine Ch.yes rfl rfl rfl h2 rfl (by decide) (ok_int rfl (vl rfl) (vl rfl) rfl) ?_
   refine Ch.op rfl rfl (by decide) (ok_pick_t rfl (vl rfl) h2 (vl rfl)) ?_
   refine Ch.nil ?_
   refine Fin.go ?_
   refine Tr.weak [(0, _), (2, _), (3, _), (4, _), (10, _), (11, _), (40, _)] ⟨⟨_, rfl, Pr.le_refl _⟩, ⟨_, rfl, Pr.le_refl _⟩, ⟨_, rfl, Pr.le_refl _⟩, ⟨_, rfl, Pr.le_refl _⟩, ⟨_, rfl, Pr.le_refl _⟩, ⟨_, rfl, Pr.le_refl _⟩, ⟨_, rfl, Pr.le_refl _⟩, trivial⟩ ?_
   refine Tr.cond rfl (fun h3 => ?_) (fun h3 => ?_)
   ·
    have q3 := Nrm.nrm h3
    refine Tr.reg0 ?_
    refine Ch.op rfl rfl (by decide) (ok_move rfl (vl rfl)) ?_
    first
     | (refine Ch.op rfl rfl (by decide) (ok_add rfl (vl rfl) (vl rfl) ?hin) ?_; case hin => unfold InI; omega)
     | refine Ch.op rfl rfl (by decide) (ok_int rfl (vl rfl) (vl rfl) rfl) ?_
    refine Ch.op rfl rfl (by decide) (ok_assign rfl (vl rfl)) ?_
    refine Ch.nil ?_
    refine Fin.go ?_
    refine Tr.seq ?_
    refine Tr.seq ?_
    refine Tr.reg1 mixed (by kernel_rfl) ?_
    refine Ch.op rfl rfl (by decide) (ok_move rfl (vl rfl)) ?_
    refine Ch.op rfl rfl (by decide) (ok_move rfl (vl rfl)) ?_
    refine Ch.op rfl rfl (by decide) (ok_move rfl (vl rfl)) ?_
    refine Ch.op rfl rfl (by decide) (ok_move rfl (vl rfl)) ?_
    first
     | (refine Ch.op rfl rfl (by decide) (ok_add rfl (vl rfl) (vl rfl) ?hin) ?_; case hin => unfold InI; omega)
     | refine Ch.op rfl rfl (by decide) (ok_int rfl (vl rfl) (vl rfl) rfl) ?_
    refine Ch.op rfl rfl (by decide) (okp_indexSl rfl Tryz.underlying29 sz40 (vl rfl) (vl rfl) (by omega) (by omega)) ?_
    refine Ch.op rfl rfl (by decide) (ok_rd 0 rfl (rd_loadA rfl agg40 sz40 (vl rfl) (cells_atG (f := rowFc) (fun _ => rfl) (by omega)) rfl)) ?_
    refine Ch.op rfl rfl (by decide) (ok_move rfl (vl rfl)) ?_
    refine Ch.op rfl rfl (by decide) (ok_move rfl (vl rfl)) ?_
    refine Ch.op rfl rfl (by decide) (ok_move rfl (vl rfl)) ?_
    first
     | (refine Ch.op rfl rfl (by decide) (ok_add rfl (vl rfl) (vl rfl) ?hin) ?_; case hin => unfold InI; omega)
     | refine Ch.op rfl rfl (by decide) (ok_int rfl (vl rfl) (vl rfl) rfl) ?_
    refine Ch.op rfl rfl (by decide) (okp_indexSl rfl Tryz.underlying29 sz40 (vl rfl) (vl rfl) (by omega) (by omega)) ?_
    refine Ch.op rfl rfl (by decide) (ok_rd 0 rfl (rd_loadA rfl agg40 sz40 (vl rfl) (cells_atG (f := rowFc) (fun _ => rfl) (by omega)) rfl)) ?_
    refine Ch.op rfl rfl (by decide) (ok_callc (_, _) rfl (vl rfl) ⟨⟨_, rfl, Pr.le_refl _⟩, ⟨_, rfl, Pr.le_refl _⟩, trivial⟩) ?_
    refine Ch.op rfl rfl (by decide) (ok_int rfl (vl rfl) (vl rfl) rfl) ?_
    refine Ch.op rfl rfl (by decide) (ok_not rfl (vl rfl)) ?_
    refine Ch.nil ?_
    refine Fin.go ?_
    refine Tr.weak [(0, _), (2, _), (3, _), (4, _), (10, _), (11, _), (58, _)] ⟨⟨_, rfl, Pr.le_refl _⟩, ⟨_, rfl, Pr.le_refl _⟩, ⟨_, rfl, Pr.le_refl _⟩, ⟨_, rfl, Pr.le_refl _⟩, ⟨_, rfl, Pr.le_refl _⟩, ⟨_, rfl, Pr.le_refl _⟩, ⟨_, rfl, Pr.le_refl _⟩, trivial⟩ ?_
    refine Tr.cond rfl (fun h4 => ?_) (fun h4 => ?_)
    ·
     have q4 := Nrm.nrm h4
     refine Tr.ret ?_
     refine Fin.then_ret ?_
     refine Fin.block_ret ?_
     refine Fin.then_ret ?_
     refine Fin.block_ret ?_
     refine Fin.closeL (SiftL c hi first lo l) 0 rfl (⟨by omega, by rw [← hso]; first | exact sift_end (by omega) (by omega) | exact sift_stopLa h0r hf (by omega) (by omega) (x := first + r) (y := first + (2 * r + 1)) rfl rfl (by omega) (by omega) (Int.not_lt.2 (by assumption)) | exact sift_stopLb h0r hf (by omega) (u := first + (2 * r + 1)) (v := first + (2 * r + 1) + 1) rfl rfl (by omega) (by omega) (Int.not_lt.2 (by assumption)) (x := first + r) (y := first + (2 * r + 1)) rfl rfl (by omega) (by omega) (Int.not_lt.2 (by assumption)) | exact sift_stopR h0r hf (by omega) (u := first + (2 * r + 1)) (v := first + (2 * r + 1) + 1) rfl rfl (by omega) (by omega) (by assumption) (x := first + r) (y := first + (2 * r + 1 + 1)) rfl rfl (by omega) (by omega) (Int.not_lt.2 (by assumption))⟩) ?_
     exact Fin.retM0r rfl
    ·
     have q4 := Nrm.nrm h4
     refine Tr.skip ?_
     refine Fin.go ?_
     refine Tr.seq ?_
     refine Tr.regX mixed [none, none, none, none, none, none, none, none, none, none, none, none, none, some (0, 0, false, 0), none, none, none, none, none, some (0, 0, false, 0), none, some (0, 0, true, 0), none, some (0, 0, true, 0)] (by kernel_rfl) ?_
     refine Cx.op rfl rfl (by decide) (fun _ => ok_move rfl (vl rfl)) ?_
     refine Cx.op rfl rfl (by decide) (fun _ => ok_move rfl (vl rfl)) ?_
     refine Cx.op rfl rfl (by decide) (fun _ => ok_move rfl (vl rfl)) ?_
     first
      | (refine Cx.op rfl rfl (by decide) (fun _ => ok_add rfl (vl rfl) (vl rfl) ?hin) ?_; case hin => unfold InI; omega)
      | refine Cx.op rfl rfl (by decide) (fun _ => ok_int rfl (vl rfl) (vl rfl) rfl) ?_
     refine Cx.op rfl rfl (by decide) (fun _ => ok_move rfl (vl rfl)) ?_
     refine Cx.op rfl rfl (by decide) (fun _ => ok_move rfl (vl rfl)) ?_
     refine Cx.op rfl rfl (by decide) (fun _ => ok_move rfl (vl rfl)) ?_
     first
      | (refine Cx.op rfl rfl (by decide) (fun _ => ok_add rfl (vl rfl) (vl rfl) ?hin) ?_; case hin => unfold InI; omega)
      | refine Cx.op rfl rfl (by decide) (fun _ => ok_int rfl (vl rfl) (vl rfl) rfl) ?_
     refine Cx.op rfl rfl (by decide) (fun _ => ok_move rfl (vl rfl)) ?_
     refine Cx.op rfl rfl (by decide) (fun _ => ok_move rfl (vl rfl)) ?_
     refine Cx.op rfl rfl (by decide) (fun _ => ok_move rfl (vl rfl)) ?_
     first
      | (refine Cx.op rfl rfl (by decide) (fun _ => ok_add rfl (vl rfl) (vl rfl) ?hin) ?_; case hin => unfold InI; omega)
      | refine Cx.op rfl rfl (by decide) (fun _ => ok_int rfl (vl rfl) (vl rfl) rfl) ?_
     refine Cx.op rfl rfl (by decide) (fun _ => okp_indexSl rfl Tryz.underlying29 sz40 (vl rfl) (vl rfl) (by omega) (by omega)) ?_
     refine Cx.rd 0 rfl rfl rfl (by decide) (rd_loadA rfl agg40 sz40 (vl rfl) (cells_atG (f := rowFc) (fun _ => rfl) (by omega)) rfl) ?_
     refine Cx.op rfl rfl (by decide) (fun _ => ok_move rfl (vl rfl)) ?_
     refine Cx.op rfl rfl (by decide) (fun _ => ok_move rfl (vl rfl)) ?_
     refine Cx.op rfl rfl (by decide) (fun _ => ok_move rfl (vl rfl)) ?_
     first
      | (refine Cx.op rfl rfl (by decide) (fun _ => ok_add rfl (vl rfl) (vl rfl) ?hin) ?_; case hin => unfold InI; omega)
      | refine Cx.op rfl rfl (by decide) (fun _ => ok_int rfl (vl rfl) (vl rfl) rfl) ?_
     refine Cx.op rfl rfl (by decide) (fun _ => okp_indexSl rfl Tryz.underlying29 sz40 (vl rfl) (vl rfl) (by omega) (by omega)) ?_
     refine Cx.rd 0 rfl rfl rfl (by decide) (rd_loadA rfl agg40 sz40 (vl rfl) (cells_atG (f := rowFc) (fun _ => rfl) (by omega)) rfl) ?_
     refine Cx.op rfl rfl (by decide) (fun _ => okp_indexSl rfl Tryz.underlying29 sz40 (vl rfl) (vl rfl) (by omega) (by omega)) ?_
     refine Cx.ef0 0 rfl rfl (ef_store rfl rfl (vl rfl) (VL.le (vl rfl) (agg_cellsP _)) sz40 rfl (by rw [cells_len (sz := 8) (fun _ => rfl)]; first | omega | (simp only [List.length_set]; omega)) (cells_setG (f := rowFc) (fun _ => rfl) (by first | omega | (simp only [List.length_set]; omega)))) ?_
     refine Cx.op rfl rfl (by decide) (fun _ => okp_indexSl rfl Tryz.underlying29 sz40 (vl rfl) (vl rfl) (by omega) (by omega)) ?_
     refine Cx.ef0 0 rfl rfl (ef_store rfl rfl (vl rfl) (VL.le (vl rfl) (agg_cellsP _)) sz40 rfl (by rw [cells_len (sz := 8) (fun _ => rfl)]; first | omega | (simp only [List.length_set]; omega)) (cells_setG (f := rowFc) (fun _ => rfl) (by first | omega | (simp only [List.length_set]; omega)))) ?_
     refine Cx.nil ⟨rfl, ?_⟩
     refine FinX.done (AllC.cons (AllC.cons (AllC.map _))) ?_
     refine Fin.go ?_
     refine Tr.weak [(0, _), (2, _), (3, _), (4, _), (11, _)] ⟨⟨_, rfl, Pr.le_refl _⟩, ⟨_, rfl, Pr.le_refl _⟩, ⟨_, rfl, Pr.le_refl _⟩, ⟨_, rfl, Pr.le_refl _⟩, ⟨_, rfl, Pr.le_refl _⟩, trivial⟩ ?_
     refine Tr.reg0 ?_
     refine Ch.op rfl rfl (by decide) (ok_move rfl (vl rfl)) ?_
     refine Ch.op rfl rfl (by decide) (ok_assign rfl (vl rfl)) ?_
     refine Ch.nil ?_
     refine Fin.block ?_
     exact Fin.famD2V0 (2 * r + 1 + 1) (_)  (⟨⟨⟨by omega, by omega⟩, by simp only [List.length_set]; exact hsl, by rw [← hso]; first | exact sift_goLa h0r hf (by omega) (by omega) (by omega) (by omega) (by omega) (by omega) (by assumption) | exact sift_goLb h0r hf (by omega) (u := first + (2 * r + 1)) (v := first + (2 * r + 1) + 1) rfl rfl (by omega) (by omega) (Int.not_lt.2 (by assumption)) (by omega) (by omega) (by omega) (by omega) (by assumption) | exact sift_goR h0r hf (by omega) (u := first + (2 * r + 1)) (v := first + (2 * r + 1) + 1) rfl rfl (by omega) (by omega) (by assumption) (by omega) (by omega) (by omega) (by omega) (by assumption)⟩, by omega⟩) ⟨⟨_, rfl, Pr.le_refl _⟩, ⟨_, rfl, Pr.le_refl _⟩, ⟨_, rfl, Pr.le_refl _⟩, ⟨_, rfl, Pr.le_refl _⟩, ⟨_, rfl, Pr.le_refl _⟩, trivial⟩ (fun _ _ h => h)
   ·
    have q3 := Nrm.nrm h3
    refine Tr.skip ?_
    refine Fin.go ?_
    refine Tr.seq ?_
    refine Tr.seq ?_
    refine Tr.reg1 mixed (by kernel_rfl) ?_
    refine Ch.op rfl rfl (by decide) (ok_move rfl (vl rfl)) ?_
    refine Ch.op rfl rfl (by decide) (ok_move rfl (vl rfl)) ?_
    refine Ch.op rfl rfl (by decide) (ok_move rfl (vl rfl)) ?_
    refine Ch.op rfl rfl (by decide) (ok_move rfl (vl rfl)) ?_
    first
     | (refine Ch.op rfl rfl (by decide) (ok_add rfl (vl rfl) (vl rfl) ?hin) ?_; case hin => unfold InI; omega)
     | refine Ch.op rfl rfl (by decide) (ok_int rfl (vl rfl) (vl rfl) rfl) ?_
    refine Ch.op rfl rfl (by decide) (okp_indexSl rfl Tryz.underlying29 sz40 (vl rfl) (vl rfl) (by omega) (by omega)) ?_
    refine Ch.op rfl rfl (by decide) (ok_rd 0 rfl (rd_loadA rfl agg40 sz40 (vl rfl) (cells_atG (f := rowFc) (fun _ => rfl) (by omega)) rfl)) ?_
    refine Ch.op rfl rfl (by decide) (ok_move rfl (vl rfl)) ?_
    refine Ch.op rfl rfl (by decide) (ok_move rfl (vl rfl)) ?_
    refine Ch.op rfl rfl (by decide) (ok_move rfl (vl rfl)) ?_
    first
     | (refine Ch.op rfl rfl (by decide) (ok_add rfl (vl rfl) (vl rfl) ?hin) ?_; case hin => unfold InI; omega)
     | refine Ch.op rfl rfl (by decide) (ok_int rfl (vl rfl) (vl rfl) rfl) ?_
    refine Ch.op rfl rfl (by decide) (okp_indexSl rfl Tryz.underlying29 sz40 (vl rfl) (vl rfl) (by omega) (by omega)) ?_
    refine Ch.op rfl rfl (by decide) (ok_rd 0 rfl (rd_loadA rfl agg40 sz40 (vl rfl) (cells_atG (f := rowFc) (fun _ => rfl) (by omega)) rfl)) ?_
    refine Ch.op rfl rfl (by decide) (ok_callc (_, _) rfl (vl rfl) ⟨⟨_, rfl, Pr.le_refl _⟩, ⟨_, rfl, Pr.le_refl _⟩, trivial⟩) ?_
    refine Ch.op rfl rfl (by decide) (ok_int rfl (vl rfl) (vl rfl) rfl) ?_
    refine Ch.op rfl rfl (by decide) (ok_not rfl (vl rfl)) ?_
    refine Ch.nil ?_
    refine Fin.go ?_
    refine Tr.weak [(0, _), (2, _), (3, _), (4, _), (10, _), (11, _), (58, _)] ⟨⟨_, rfl, Pr.le_refl _⟩, ⟨_, rfl, Pr.le_refl _⟩, ⟨_, rfl, Pr.le_refl _⟩, ⟨_, rfl, Pr.le_refl _⟩, ⟨_, rfl, Pr.le_refl _⟩, ⟨_, rfl, Pr.le_refl _⟩, ⟨_, rfl, Pr.le_refl _⟩, trivial⟩ ?_
    refine Tr.cond rfl (fun h5 => ?_) (fun h5 => ?_)
    ·
     have q5 := Nrm.nrm h5
     refine Tr.ret ?_
     refine Fin.then_ret ?_
     refine Fin.block_ret ?_
     refine Fin.then_ret ?_
     refine Fin.block_ret ?_
     refine Fin.closeL (SiftL c hi first lo l) 0 rfl (⟨by omega, by rw [← hso]; first | exact sift_end (by omega) (by omega) | exact sift_stopLa h0r hf (by omega) (by omega) (x := first + r) (y := first + (2 * r + 1)) rfl rfl (by omega) (by omega) (Int.not_lt.2 (by assumption)) | exact sift_stopLb h0r hf (by omega) (u := first + (2 * r + 1)) (v := first + (2 * r + 1) + 1) rfl rfl (by omega) (by omega) (Int.not_lt.2 (by assumption)) (x := first + r) (y := first + (2 * r + 1)) rfl rfl (by omega) (by omega) (Int.not_lt.2 (by assumption)) | exact sift_stopR h0r hf (by omega) (u := first + (2 * r + 1)) (v := first + (2 * r + 1) + 1) rfl rfl (by omega) (by omega) (by assumption) (x := first + r) (y := first + (2 * r + 1 + 1)) rfl rfl (by omega) (by omega) (Int.not_lt.2 (by assumption))⟩) ?_
     exact Fin.retM0r rfl
    ·
     have q5 := Nrm.nrm h5
     refine Tr.skip ?_
     refine Fin.go ?_
     refine Tr.seq ?_
     refine Tr.regX mixed [none, none, none, none, none, none, none, none, none, none, none, none, none, some (0, 0, false, 0), none, none, none, none, none, some (0, 0, false, 0), none, some (0, 0, true, 0), none, some (0, 0, true, 0)] (by kernel_rfl) ?_
     refine Cx.op rfl rfl (by decide) (fun _ => ok_move rfl (vl rfl)) ?_
     refine Cx.op rfl rfl (by decide) (fun _ => ok_move rfl (vl rfl)) ?_
     refine Cx.op rfl rfl (by decide) (fun _ => ok_move rfl (vl rfl)) ?_
     first
      | (refine Cx.op rfl rfl (by decide) (fun _ => ok_add rfl (vl rfl) (vl rfl) ?hin) ?_; case hin => unfold InI; omega)
      | refine Cx.op rfl rfl (by decide) (fun _ => ok_int rfl (vl rfl) (vl rfl) rfl) ?_
     refine Cx.op rfl rfl (by decide) (fun _ => ok_move rfl (vl rfl)) ?_
     refine Cx.op rfl rfl (by decide) (fun _ => ok_move rfl (vl rfl)) ?_
     refine Cx.op rfl rfl (by decide) (fun _ => ok_move rfl (vl rfl)) ?_
     first
      | (refine Cx.op rfl rfl (by decide) (fun _ => ok_add rfl (vl rfl) (vl rfl) ?hin) ?_; case hin => unfold InI; omega)
      | refine Cx.op rfl rfl (by decide) (fun _ => ok_int rfl (vl rfl) (vl rfl) rfl) ?_
     refine Cx.op rfl rfl (by decide) (fun _ => ok_move rfl (vl rfl)) ?_
     refine Cx.op rfl rfl (by decide) (fun _ => ok_move rfl (vl rfl)) ?_
     refine Cx.op rfl rfl (by decide) (fun _ => ok_move rfl (vl rfl)) ?_
     first
      | (refine Cx.op rfl rfl (by decide) (fun _ => ok_add rfl (vl rfl) (vl rfl) ?hin) ?_; case hin => unfold InI; omega)
      | refine Cx.op rfl rfl (by decide) (fun _ => ok_int rfl (vl rfl) (vl rfl) rfl) ?_
     refine Cx.op rfl rfl (by decide) (fun _ => okp_indexSl rfl Tryz.underlying29 sz40 (vl rfl) (vl rfl) (by omega) (by omega)) ?_
     refine Cx.rd 0 rfl rfl rfl (by decide) (rd_loadA rfl agg40 sz40 (vl rfl) (cells_atG (f := rowFc) (fun _ => rfl) (by omega)) rfl) ?_
     refine Cx.op rfl rfl (by decide) (fun _ => ok_move rfl (vl rfl)) ?_
     refine Cx.op rfl rfl (by decide) (fun _ => ok_move rfl (vl rfl)) ?_
     refine Cx.op rfl rfl (by decide) (fun _ => ok_move rfl (vl rfl)) ?_
     first
      | (refine Cx.op rfl rfl (by decide) (fun _ => ok_add rfl (vl rfl) (vl rfl) ?hin) ?_; case hin => unfold InI; omega)
      | refine Cx.op rfl rfl (by decide) (fun _ => ok_int rfl (vl rfl) (vl rfl) rfl) ?_
     refine Cx.op rfl rfl (by decide) (fun _ => okp_indexSl rfl Tryz.underlying29 sz40 (vl rfl) (vl rfl) (by omega) (by omega)) ?_
     refine Cx.rd 0 rfl rfl rfl (by decide) (rd_loadA rfl agg40 sz40 (vl rfl) (cells_atG (f := rowFc) (fun _ => rfl) (by omega)) rfl) ?_
     refine Cx.op rfl rfl (by decide) (fun _ => okp_indexSl rfl Tryz.underlying29 sz40 (vl rfl) (vl rfl) (by omega) (by omega)) ?_
     refine Cx.ef0 0 rfl rfl (ef_store rfl rfl (vl rfl) (VL.le (vl rfl) (agg_cellsP _)) sz40 rfl (by rw [cells_len (sz := 8) (fun _ => rfl)]; first | omega | (simp only [List.length_set]; omega)) (cells_setG (f := rowFc) (fun _ => rfl) (by first | omega | (simp only [List.length_set]; omega)))) ?_
     refine Cx.op rfl rfl (by decide) (fun _ => okp_indexSl rfl Tryz.underlying29 sz40 (vl rfl) (vl rfl) (by omega) (by omega)) ?_
     refine Cx.ef0 0 rfl rfl (ef_store rfl rfl (vl rfl) (VL.le (vl rfl) (agg_cellsP _)) sz40 rfl (by rw [cells_len (sz := 8) (fun _ => rfl)]; first | omega | (simp only [List.length_set]; omega)) (cells_setG (f := rowFc) (fun _ => rfl) (by first | omega | (simp only [List.length_set]; omega)))) ?_
     refine Cx.nil ⟨rfl, ?_⟩
     refine FinX.done (AllC.cons (AllC.cons (AllC.map _))) ?_
     refine Fin.go ?_
     refine Tr.weak [(0, _), (2, _), (3, _), (4, _), (11, _)] ⟨⟨_, rfl, Pr.le_refl _⟩, ⟨_, rfl, Pr.le_refl _⟩, ⟨_, rfl, Pr.le_refl _⟩, ⟨_, rfl, Pr.le_refl _⟩, ⟨_, rfl, Pr.le_refl _⟩, trivial⟩ ?_
     refine Tr.reg0 ?_
     refine Ch.op rfl rfl (by decide) (ok_move rfl (vl rfl)) ?_
     refine Ch.op rfl rfl (by decide) (ok_assign rfl (vl rfl)) ?_
     refine Ch.nil ?_
     refine Fin.block ?_
     exact Fin.famD2V0 (2 * r + 1) (_)  (⟨⟨⟨by omega, by omega⟩, by simp only [List.length_set]; exact hsl, by rw [← hso]; first | exact sift_goLa h0r hf (by omega) (by omega) (by omega) (by omega) (by omega) (by omega) (by assumption) | exact sift_goLb h0r hf (by omega) (u := first + (2 * r + 1)) (v := first + (2 * r + 1) + 1) rfl rfl (by omega) (by omega) (Int.not_lt.2 (by assumption)) (by omega) (by omega) (by omega) (by omega) (by assumption) | exact sift_goR h0r hf (by omega) (u := first + (2 * r + 1)) (v := first + (2 * r + 1) + 1) rfl rfl (by omega) (by omega) (by assumption) (by omega) (by omega) (by omega) (by omega) (by assumption)⟩, by omega⟩) ⟨⟨_, rfl, Pr.le_refl _⟩, ⟨_, rfl, Pr.le_refl _⟩, ⟨_, rfl, Pr.le_refl _⟩, ⟨_, rfl, Pr.le_refl _⟩, ⟨_, rfl, Pr.le_refl _⟩, trivial⟩ (fun _ _ h => h)
  ·
   have q2 := Nrm.nrm h2
   refine Ch.no rfl rfl rfl (ne_true h2) rfl (by decide) ?_
   refine Ch.no rfl rfl rfl (ne_true h2) rfl (by decide) ?_
   refine Ch.no rfl rfl rfl (ne_true h2) rfl (by decide) ?_
   refine Ch.no rfl rfl rfl (ne_true h2) rfl (by decide) ?_
   refine Ch.no rfl rfl rfl (ne_true h2) rfl (by decide) ?_
   refine Ch.no rfl rfl rfl (ne_true h2) rfl (by decide) ?_
   refine Ch.no rfl rfl rfl (ne_true h2) rfl (by decide) ?_
   refine Ch.no rfl rfl rfl (ne_true h2) rfl (by decide) ?_
   refine Ch.no rfl rfl rfl (ne_true h2) rfl (by decide) ?_
   refine Ch.no rfl rfl rfl (ne_true h2) rfl (by decide) ?_
   refine Ch.no rfl rfl rfl (ne_true h2) rfl (by decide) ?_
   refine Ch.no rfl rfl rfl (ne_true h2) rfl (by decide) ?_
   refine Ch.no rfl rfl rfl (ne_true h2) rfl (by decide) ?_
   refine Ch.no rfl rfl rfl (ne_true h2) rfl (by decide) ?_
   refine Ch.no rfl rfl rfl (ne_true h2) rfl (by decide) ?_
   refine Ch.no rfl rfl rfl (ne_true h2) rfl (by decide) ?_
   refine Ch.op rfl rfl (by decide) (ok_pick_f rfl (vl rfl) h2 (vl rfl)) ?_
   refine Ch.nil ?_
   refine Fin.go ?_
   refine Tr.weak [(0, _), (2, _), (3, _), (4, _), (10, _), (11, _), (40, _)] ⟨⟨_, rfl, Pr.le_refl _⟩, ⟨_, rfl, Pr.le_refl _⟩, ⟨_, rfl, Pr.le_refl _⟩, ⟨_, rfl, Pr.le_refl _⟩, ⟨_, rfl, Pr.le_refl _⟩, ⟨_, rfl, Pr.le_refl _⟩, ⟨_, rfl, Pr.le_refl _⟩, trivial⟩ ?_
   refine Tr.cond rfl (fun h => nomatch h) (fun _ => ?_)
   refine Tr.skip ?_
   refine Fin.go ?_
   refine Tr.seq ?_
   refine Tr.seq ?_
   refine Tr.reg1 mixed (by kernel_rfl) ?_
   refine Ch.op rfl rfl (by decide) (ok_move rfl (vl rfl)) ?_
   refine Ch.op rfl rfl (by decide) (ok_move rfl (vl rfl)) ?_
   refine Ch.op rfl rfl (by decide) (ok_move rfl (vl rfl)) ?_
   refine Ch.op rfl rfl (by decide) (ok_move rfl (vl rfl)) ?_
   first
    | (refine Ch.op rfl rfl (by decide) (ok_add rfl (vl rfl) (vl rfl) ?hin) ?_; case hin => unfold InI; omega)
    | refine Ch.op rfl rfl (by decide) (ok_int rfl (vl rfl) (vl rfl) rfl) ?_
   refine Ch.op rfl rfl (by decide) (okp_indexSl rfl Tryz.underlying29 sz40 (vl rfl) (vl rfl) (by omega) (by omega)) ?_
   refine Ch.op rfl rfl (by decide) (ok_rd 0 rfl (rd_loadA rfl agg40 sz40 (vl rfl) (cells_atG (f := rowFc) (fun _ => rfl) (by omega)) rfl)) ?_
   refine Ch.op rfl rfl (by decide) (ok_move rfl (vl rfl)) ?_
   refine Ch.op rfl rfl (by decide) (ok_move rfl (vl rfl)) ?_
   refine Ch.op rfl rfl (by decide) (ok_move rfl (vl rfl)) ?_
   first
    | (refine Ch.op rfl rfl (by decide) (ok_add rfl (vl rfl) (vl rfl) ?hin) ?_; case hin => unfold InI; omega)
    | refine Ch.op rfl rfl (by decide) (ok_int rfl (vl rfl) (vl rfl) rfl) ?_
   refine Ch.op rfl rfl (by decide) (okp_indexSl rfl Tryz.underlying29 sz40 (vl rfl) (vl rfl) (by omega) (by omega)) ?_
   refine Ch.op rfl rfl (by decide) (ok_rd 0 rfl (rd_loadA rfl agg40 sz40 (vl rfl) (cells_atG (f := rowFc) (fun _ => rfl) (by omega)) rfl)) ?_
   refine Ch.op rfl rfl (by decide) (ok_callc (_, _) rfl (vl rfl) ⟨⟨_, rfl, Pr.le_refl _⟩, ⟨_, rfl, Pr.le_refl _⟩, trivial⟩) ?_
   refine Ch.op rfl rfl (by decide) (ok_int rfl (vl rfl) (vl rfl) rfl) ?_
   refine Ch.op rfl rfl (by decide) (ok_not rfl (vl rfl)) ?_
   refine Ch.nil ?_
   refine Fin.go ?_
   refine Tr.weak [(0, _), (2, _), (3, _), (4, _), (10, _), (11, _), (58, _)] ⟨⟨_, rfl, Pr.le_refl _⟩, ⟨_, rfl, Pr.le_refl _⟩, ⟨_, rfl, Pr.le_refl _⟩, ⟨_, rfl, Pr.le_refl _⟩, ⟨_, rfl, Pr.le_refl _⟩, ⟨_, rfl, Pr.le_refl _⟩, ⟨_, rfl, Pr.le_refl _⟩, trivial⟩ ?_
   refine Tr.cond rfl (fun h6 => ?_) (fun h6 => ?_)
   ·
    have q6 := Nrm.nrm h6
    refine Tr.ret ?_
    refine Fin.then_ret ?_
    refine Fin.block_ret ?_
    refine Fin.then_ret ?_
    refine Fin.block_ret ?_
    refine Fin.closeL (SiftL c hi first lo l) 0 rfl (⟨by omega, by rw [← hso]; first | exact sift_end (by omega) (by omega) | exact sift_stopLa h0r hf (by omega) (by omega) (x := first + r) (y := first + (2 * r + 1)) rfl rfl (by omega) (by omega) (Int.not_lt.2 (by assumption)) | exact sift_stopLb h0r hf (by omega) (u := first + (2 * r + 1)) (v := first + (2 * r + 1) + 1) rfl rfl (by omega) (by omega) (Int.not_lt.2 (by assumption)) (x := first + r) (y := first + (2 * r + 1)) rfl rfl (by omega) (by omega) (Int.not_lt.2 (by assumption)) | exact sift_stopR h0r hf (by omega) (u := first + (2 * r + 1)) (v := first + (2 * r + 1) + 1) rfl rfl (by omega) (by omega) (by assumption) (x := first + r) (y := first + (2 * r + 1 + 1)) rfl rfl (by omega) (by omega) (Int.not_lt.2 (by assumption))⟩) ?_
    exact Fin.retM0r rfl
   ·
    have q6 := Nrm.nrm h6
    refine Tr.skip ?_
    refine Fin.go ?_
    refine Tr.seq ?_
    refine Tr.regX mixed [none, none, none, none, none, none, none, none, none, none, none, none, none, some (0, 0, false, 0), none, none, none, none, none, some (0, 0, false, 0), none, some (0, 0, true, 0), none, some (0, 0, true, 0)] (by kernel_rfl) ?_
    refine Cx.op rfl rfl (by decide) (fun _ => ok_move rfl (vl rfl)) ?_
    refine Cx.op rfl rfl (by decide) (fun _ => ok_move rfl (vl rfl)) ?_
    refine Cx.op rfl rfl (by decide) (fun _ => ok_move rfl (vl rfl)) ?_
    first
     | (refine Cx.op rfl rfl (by decide) (fun _ => ok_add rfl (vl rfl) (vl rfl) ?hin) ?_; case hin => unfold InI; omega)
     | refine Cx.op rfl rfl (by decide) (fun _ => ok_int rfl (vl rfl) (vl rfl) rfl) ?_
    refine Cx.op rfl rfl (by decide) (fun _ => ok_move rfl (vl rfl)) ?_
    refine Cx.op rfl rfl (by decide) (fun _ => ok_move rfl (vl rfl)) ?_
    refine Cx.op rfl rfl (by decide) (fun _ => ok_move rfl (vl rfl)) ?_
    first
     | (refine Cx.op rfl rfl (by decide) (fun _ => ok_add rfl (vl rfl) (vl rfl) ?hin) ?_; case hin => unfold InI; omega)
     | refine Cx.op rfl rfl (by decide) (fun _ => ok_int rfl (vl rfl) (vl rfl) rfl) ?_
    refine Cx.op rfl rfl (by decide) (fun _ => ok_move rfl (vl rfl)) ?_
    refine Cx.op rfl rfl (by decide) (fun _ => ok_move rfl (vl rfl)) ?_
    refine Cx.op rfl rfl (by decide) (fun _ => ok_move rfl (vl rfl)) ?_
    first
     | (refine Cx.op rfl rfl (by decide) (fun _ => ok_add rfl (vl rfl) (vl rfl) ?hin) ?_; case hin => unfold InI; omega)
     | refine Cx.op rfl rfl (by decide) (fun _ => ok_int rfl (vl rfl) (vl rfl) rfl) ?_
    refine Cx.op rfl rfl (by decide) (fun _ => okp_indexSl rfl Tryz.underlying29 sz40 (vl rfl) (vl rfl) (by omega) (by omega)) ?_
    refine Cx.rd 0 rfl rfl rfl (by decide) (rd_loadA rfl agg40 sz40 (vl rfl) (cells_atG (f := rowFc) (fun _ => rfl) (by omega)) rfl) ?_
    refine Cx.op rfl rfl (by decide) (fun _ => ok_move rfl (vl rfl)) ?_
    refine Cx.op rfl rfl (by decide) (fun _ => ok_move rfl (vl rfl)) ?_
    refine Cx.op rfl rfl (by decide) (fun _ => ok_move rfl (vl rfl)) ?_
    first
     | (refine Cx.op rfl rfl (by decide) (fun _ => ok_add rfl (vl rfl) (vl rfl) ?hin) ?_; case hin => unfold InI; omega)
     | refine Cx.op rfl rfl (by decide) (fun _ => ok_int rfl (vl rfl) (vl rfl) rfl) ?_
    refine Cx.op rfl rfl (by decide) (fun _ => okp_indexSl rfl Tryz.underlying29 sz40 (vl rfl) (vl rfl) (by omega) (by omega)) ?_
    refine Cx.rd 0 rfl rfl rfl (by decide) (rd_loadA rfl agg40 sz40 (vl rfl) (cells_atG (f := rowFc) (fun _ => rfl) (by omega)) rfl) ?_
    refine Cx.op rfl rfl (by decide) (fun _ => okp_indexSl rfl Tryz.underlying29 sz40 (vl rfl) (vl rfl) (by omega) (by omega)) ?_
    refine Cx.ef0 0 rfl rfl (ef_store rfl rfl (vl rfl) (VL.le (vl rfl) (agg_cellsP _)) sz40 rfl (by rw [cells_len (sz := 8) (fun _ => rfl)]; first | omega | (simp only [List.length_set]; omega)) (cells_setG (f := rowFc) (fun _ => rfl) (by first | omega | (simp only [List.length_set]; omega)))) ?_
    refine Cx.op rfl rfl (by decide) (fun _ => okp_indexSl rfl Tryz.underlying29 sz40 (vl rfl) (vl rfl) (by omega) (by omega)) ?_
    refine Cx.ef0 0 rfl rfl (ef_store rfl rfl (vl rfl) (VL.le (vl rfl) (agg_cellsP _)) sz40 rfl (by rw [cells_len (sz := 8) (fun _ => rfl)]; first | omega | (simp only [List.length_set]; omega)) (cells_setG (f := rowFc) (fun _ => rfl) (by first | omega | (simp only [List.length_set]; omega)))) ?_
    refine Cx.nil ⟨rfl, ?_⟩
    refine FinX.done (AllC.cons (AllC.cons (AllC.map _))) ?_
    refine Fin.go ?_
    refine Tr.weak [(0, _), (2, _), (3, _), (4, _), (11, _)] ⟨⟨_, rfl, Pr.le_refl _⟩, ⟨_, rfl, Pr.le_refl _⟩, ⟨_, rfl, Pr.le_refl _⟩, ⟨_, rfl, Pr.le_refl _⟩, ⟨_, rfl, Pr.le_refl _⟩, trivial⟩ ?_
    refine Tr.reg0 ?_
    refine Ch.op rfl rfl (by decide) (ok_move rfl (vl rfl)) ?_
    refine Ch.op rfl rfl (by decide) (ok_assign rfl (vl rfl)) ?_
    refine Ch.nil ?_
    refine Fin.block ?_
    exact Fin.famD2V0 (2 * r + 1) (_)  (⟨⟨⟨by omega, by omega⟩, by simp only [List.length_set]; exact hsl, by rw [← hso]; first | exact sift_goLa h0r hf (by omega) (by omega) (by omega) (by omega) (by omega) (by omega) (by assumption) | exact sift_goLb h0r hf (by omega) (u := first + (2 * r + 1)) (v := first + (2 * r + 1) + 1) rfl rfl (by omega) (by omega) (Int.not_lt.2 (by assumption)) (by omega) (by omega) (by omega) (by omega) (by assumption) | exact sift_goR h0r hf (by omega) (u := first + (2 * r + 1)) (v := first + (2 * r + 1) + 1) rfl rfl (by omega) (by omega) (by assumption) (by omega) (by omega) (by omega) (by omega) (by assumption)⟩, by omega⟩) ⟨⟨_, rfl, Pr.le_refl _⟩, ⟨_, rfl, Pr.le_refl _⟩, ⟨_, rfl, Pr.le_refl _⟩, ⟨_, rfl, Pr.le_refl _⟩, ⟨_, rfl, Pr.le_refl _⟩, trivial⟩ (fun _ _ h => h)
set_option maxRecDepth 20000 in
theorem w_sheapF {l : List Fct} {c : Fct × Fct → Int} {b0 cap len : Nat} {sp : List Value} {a b : Int} (hln : l.length = len) (hll : len ≤ 1000000) (hw : Go.Sort.SWO (ltc c)) (h0 : 0 ≤ a) (hab : a ≤ b) (hb : b ≤ len) : FunM Tryz.prog 106 [is (.slice (some ⟨b0, 0, none⟩) len cap), int a, int b, clo Tryz.prog (fun x : Fct × Fct => [agg (rowFc x.1), agg (rowFc x.2)]) (fun x => int (c x))] (unit_) (cellsRes true b0 40 ((l.map rowFc).flatten ++ sp.map is)) (fun _ => relRes b0 40 rowFc (SortL c a b l) (sp.map is)) := by
 refine FunM.of Tryz.func106 rfl rfl (by exact Nat.le_of_ble_eq_true rfl) fun M0 w0 S rs M1 w1 => ?_
 have hq : IntKind.i64.wrap ((b - a - 1).tdiv 2) = (((b.toNat - a.toNat - 1) / 2 : Nat) : Int) := heap_half (by omega) (by omega) (by omega)
 refine Tr.seq ?_
 refine Tr.reg0 ?_
 refine Ch.op rfl rfl (by decide) (ok_move rfl (vl rfl)) ?_
 refine Ch.op rfl rfl (by decide) (ok_assign rfl (vl rfl)) ?_
 refine Ch.nil ?_
 refine Fin.go ?_
 refine Tr.seq ?_
 refine Tr.reg0 ?_
 refine Ch.op rfl rfl (by decide) (ok_assign rfl (vl rfl)) ?_
 refine Ch.nil ?_
 refine Fin.go ?_
 refine Tr.seq ?_
 refine Tr.reg0 ?_
 refine Ch.op rfl rfl (by decide) (ok_move rfl (vl rfl)) ?_
 refine Ch.op rfl rfl (by decide) (ok_move rfl (vl rfl)) ?_
 first
  | (refine Ch.op rfl rfl (by decide) (ok_sub rfl (vl rfl) (vl rfl) ?hin) ?_; case hin => unfold InI; omega)
  | refine Ch.op rfl rfl (by decide) (ok_int rfl (vl rfl) (vl rfl) rfl) ?_
 refine Ch.op rfl rfl (by decide) (ok_assign rfl (vl rfl)) ?_
 refine Ch.nil ?_
 refine Fin.go ?_
 refine Tr.seq ?_
 refine Tr.seq ?_
 refine Tr.reg0 ?_
 refine Ch.op rfl rfl (by decide) (ok_move rfl (vl rfl)) ?_
 first
  | (refine Ch.op rfl rfl (by decide) (ok_sub rfl (vl rfl) (vl rfl) ?hin) ?_; case hin => unfold InI; omega)
  | refine Ch.op rfl rfl (by decide) (ok_int rfl (vl rfl) (vl rfl) rfl) ?_
 refine Ch.op rfl rfl (by decide) (ok_quo rfl (vl rfl) (vl rfl) (by omega)) ?_
 refine Ch.op rfl rfl (by decide) (ok_assign rfl (vl rfl)) ?_
 refine Ch.nil ?_
 refine Fin.go ?_
 refine Tr.block ?_
 refine Tr.loopD2V0 [(0, _), (3, _), (8, _), (9, _), (10, _)] ⟨⟨_, rfl, Pr.le_refl _⟩, ⟨_, rfl, Pr.le_refl _⟩, ⟨_, rfl, Pr.le_refl _⟩, ⟨_, rfl, Pr.le_refl _⟩, ⟨_, rfl, Pr.le_refl _⟩, trivial⟩ (fun (i : Int) (st : List Fct) => [(11, int i)]) (fun (i : Int) (st : List Fct) => Hp M0 w0 S (cellsRes true b0 40 ((st.map rowFc).flatten ++ sp.map is) :: extRes M1 w1 :: rs)) (fun (i : Int) (st : List Fct) => (-1 ≤ i ∧ i ≤ b - a) ∧ st.length = len ∧ Go.Sort.heapBuild (ltc c) (b - a).toNat a.toNat (i + 1).toNat st.toArray = Go.Sort.heapBuild (ltc c) (b - a).toNat a.toNat ((b.toNat - a.toNat - 1) / 2 + 1) l.toArray) (fun (i : Int) (st : List Fct) => (i + 1).toNat) ((((b.toNat - a.toNat - 1) / 2 : Nat) : Int)) (l)  (⟨⟨by omega, by omega⟩, by omega, by rw [show ((((b.toNat - a.toNat - 1) / 2 : Nat) : Int) + 1).toNat = (b.toNat - a.toNat - 1) / 2 + 1 by omega]⟩) ⟨⟨_, rfl, int_eq hq⟩, trivial⟩ (fun _ _ h => h) ?_
 rintro i st  ⟨⟨hi1, hi2⟩, hsl, hso⟩
 refine Tr.seq ?_
 refine Tr.seq ?_
 refine Tr.reg0 ?_
 refine Ch.op rfl rfl (by decide) (ok_move rfl (vl rfl)) ?_
 refine Ch.op rfl rfl (by decide) (ok_int rfl (vl rfl) (vl rfl) rfl) ?_
 refine Ch.nil ?_
 refine Fin.go ?_
 refine Tr.cond rfl (fun h1 => ?_) (fun h1 => ?_)
 ·
  have q1 := Nrm.nrm h1
  have hib : 0 ≤ i := of_decide_eq_true h1
  refine Tr.skip ?_
  refine Fin.go ?_
  refine Tr.seq ?_
  refine Tr.block ?_
  refine Tr.regT ?_
  refine TO.op rfl rfl (by decide) (ok_move rfl (vl rfl)) ?_
  refine TO.op rfl rfl (by decide) (ok_move rfl (vl rfl)) ?_
  refine TO.op rfl rfl (by decide) (ok_move rfl (vl rfl)) ?_
  refine TO.op rfl rfl (by decide) (ok_move rfl (vl rfl)) ?_
  refine TO.op rfl rfl (by decide) (ok_move rfl (vl rfl)) ?_
  refine TO.efc 0 rfl rfl (by decide) (ef_callc rfl rfl (by decide) rfl (w_ssiftF (by first | omega | (simp only [List.length_set]; omega)) (by omega) (by omega) (by omega) (by omega) (by omega)) ⟨⟨_, rfl, Pr.le_refl _⟩, ⟨_, rfl, Pr.le_refl _⟩, ⟨_, rfl, Pr.le_refl _⟩, ⟨_, rfl, Pr.le_refl _⟩, ⟨_, rfl, Pr.le_refl _⟩, trivial⟩) ?_
  refine TO.openL 0 rfl fun t1 hp1 => ?_
  have hpl1 := hp1.len
  refine TO.nil ?_
  refine Fin.block ?_
  refine Fin.go ?_
  refine Tr.weak [(0, _), (3, _), (8, _), (9, _), (10, _), (11, _)] ⟨⟨_, rfl, Pr.le_refl _⟩, ⟨_, rfl, Pr.le_refl _⟩, ⟨_, rfl, Pr.le_refl _⟩, ⟨_, rfl, Pr.le_refl _⟩, ⟨_, rfl, Pr.le_refl _⟩, ⟨_, rfl, Pr.le_refl _⟩, trivial⟩ ?_
  refine Tr.reg0 ?_
  refine Ch.op rfl rfl (by decide) (ok_move rfl (vl rfl)) ?_
  first
   | (refine Ch.op rfl rfl (by decide) (ok_sub rfl (vl rfl) (vl rfl) ?hin) ?_; case hin => unfold InI; omega)
   | refine Ch.op rfl rfl (by decide) (ok_int rfl (vl rfl) (vl rfl) rfl) ?_
  refine Ch.op rfl rfl (by decide) (ok_assign rfl (vl rfl)) ?_
  refine Ch.nil ?_
  exact Fin.famD2V0 (i - 1) (t1)  (⟨⟨⟨by omega, by omega⟩, by omega, by rw [hp1.2]; exact (build_go hib).trans hso⟩, by omega⟩) ⟨⟨_, rfl, Pr.le_refl _⟩, ⟨_, rfl, Pr.le_refl _⟩, ⟨_, rfl, Pr.le_refl _⟩, ⟨_, rfl, Pr.le_refl _⟩, ⟨_, rfl, Pr.le_refl _⟩, ⟨_, rfl, Pr.le_refl _⟩, trivial⟩ (fun _ _ h => h)
 ·
  have q1 := Nrm.nrm h1
  have hib : ¬ 0 ≤ i := of_decide_eq_false h1
  rw [build_end hib] at hso
  refine Tr.exit ?_
  refine Fin.then_exit ?_
  refine Fin.then_exit ?_
  refine Fin.block_here ?_
  refine Fin.go ?_
  refine Tr.seq ?_
  refine Tr.reg0 ?_
  refine Ch.op rfl rfl (by decide) (ok_move rfl (vl rfl)) ?_
  first
   | (refine Ch.op rfl rfl (by decide) (ok_sub rfl (vl rfl) (vl rfl) ?hin) ?_; case hin => unfold InI; omega)
   | refine Ch.op rfl rfl (by decide) (ok_int rfl (vl rfl) (vl rfl) rfl) ?_
  refine Ch.op rfl rfl (by decide) (ok_assign rfl (vl rfl)) ?_
  refine Ch.nil ?_
  refine Fin.go ?_
  refine Tr.block ?_
  refine Tr.loopD2V0 [(0, _), (3, _), (8, _), (9, _)] ⟨⟨_, rfl, Pr.le_refl _⟩, ⟨_, rfl, Pr.le_refl _⟩, ⟨_, rfl, Pr.le_refl _⟩, ⟨_, rfl, Pr.le_refl _⟩, trivial⟩ (fun (i2 : Int) (st2 : List Fct) => [(12, int i2)]) (fun (i2 : Int) (st2 : List Fct) => Hp M0 w0 S (cellsRes true b0 40 ((st2.map rowFc).flatten ++ sp.map is) :: extRes M1 w1 :: rs)) (fun (i2 : Int) (st2 : List Fct) => (-1 ≤ i2 ∧ i2 < b - a) ∧ st2.length = len ∧ Go.Sort.heapPop (ltc c) a.toNat (i2 + 1).toNat st2.toArray = Go.Sort.heapPop (ltc c) a.toNat (b - a).toNat st.toArray) (fun (i2 : Int) (st2 : List Fct) => (i2 + 1).toNat) (b - a - 1) (st)  (⟨⟨by omega, by omega⟩, by omega, by rw [show (b - a - 1 + 1).toNat = (b - a).toNat by omega]⟩) ⟨⟨_, rfl, Pr.le_refl _⟩, trivial⟩ (fun _ _ h => h) ?_
  rintro i2 st2  ⟨⟨hj1, hj2⟩, hsl2, hso2⟩
  refine Tr.seq ?_
  refine Tr.seq ?_
  refine Tr.reg0 ?_
  refine Ch.op rfl rfl (by decide) (ok_move rfl (vl rfl)) ?_
  refine Ch.op rfl rfl (by decide) (ok_int rfl (vl rfl) (vl rfl) rfl) ?_
  refine Ch.nil ?_
  refine Fin.go ?_
  refine Tr.cond rfl (fun h2 => ?_) (fun h2 => ?_)
  ·
   have q2 := Nrm.nrm h2
   have hib2 : 0 ≤ i2 := of_decide_eq_true h2
   refine Tr.skip ?_
   refine Fin.go ?_
   refine Tr.seq ?_
   refine Tr.block ?_
   refine Tr.seq ?_
   refine Tr.regX mixed [none, none, none, none, none, none, none, none, none, none, none, some (0, 0, false, 0), none, none, none, some (0, 0, false, 0), none, some (0, 0, true, 0), none, some (0, 0, true, 0)] (by kernel_rfl) ?_
   refine Cx.op rfl rfl (by decide) (fun _ => ok_move rfl (vl rfl)) ?_
   refine Cx.op rfl rfl (by decide) (fun _ => ok_move rfl (vl rfl)) ?_
   refine Cx.op rfl rfl (by decide) (fun _ => ok_move rfl (vl rfl)) ?_
   refine Cx.op rfl rfl (by decide) (fun _ => ok_move rfl (vl rfl)) ?_
   refine Cx.op rfl rfl (by decide) (fun _ => ok_move rfl (vl rfl)) ?_
   first
    | (refine Cx.op rfl rfl (by decide) (fun _ => ok_add rfl (vl rfl) (vl rfl) ?hin) ?_; case hin => unfold InI; omega)
    | refine Cx.op rfl rfl (by decide) (fun _ => ok_int rfl (vl rfl) (vl rfl) rfl) ?_
   refine Cx.op rfl rfl (by decide) (fun _ => ok_move rfl (vl rfl)) ?_
   refine Cx.op rfl rfl (by decide) (fun _ => ok_move rfl (vl rfl)) ?_
   refine Cx.op rfl rfl (by decide) (fun _ => ok_move rfl (vl rfl)) ?_
   first
    | (refine Cx.op rfl rfl (by decide) (fun _ => ok_add rfl (vl rfl) (vl rfl) ?hin) ?_; case hin => unfold InI; omega)
    | refine Cx.op rfl rfl (by decide) (fun _ => ok_int rfl (vl rfl) (vl rfl) rfl) ?_
   refine Cx.op rfl rfl (by decide) (fun _ => okp_indexSl rfl Tryz.underlying29 sz40 (vl rfl) (vl rfl) (by omega) (by omega)) ?_
   refine Cx.rd 0 rfl rfl rfl (by decide) (rd_loadA rfl agg40 sz40 (vl rfl) (cells_atG (f := rowFc) (fun _ => rfl) (by omega)) rfl) ?_
   refine Cx.op rfl rfl (by decide) (fun _ => ok_move rfl (vl rfl)) ?_
   refine Cx.op rfl rfl (by decide) (fun _ => ok_move rfl (vl rfl)) ?_
   refine Cx.op rfl rfl (by decide) (fun _ => okp_indexSl rfl Tryz.underlying29 sz40 (vl rfl) (vl rfl) (by omega) (by omega)) ?_
   refine Cx.rd 0 rfl rfl rfl (by decide) (rd_loadA rfl agg40 sz40 (vl rfl) (cells_atG (f := rowFc) (fun _ => rfl) (by omega)) rfl) ?_
   refine Cx.op rfl rfl (by decide) (fun _ => okp_indexSl rfl Tryz.underlying29 sz40 (vl rfl) (vl rfl) (by omega) (by omega)) ?_
   refine Cx.ef0 0 rfl rfl (ef_store rfl rfl (vl rfl) (VL.le (vl rfl) (agg_cellsP _)) sz40 rfl (by rw [cells_len (sz := 8) (fun _ => rfl)]; first | omega | (simp only [List.length_set]; omega)) (cells_setG (f := rowFc) (fun _ => rfl) (by first | omega | (simp only [List.length_set]; omega)))) ?_
   refine Cx.op rfl rfl (by decide) (fun _ => okp_indexSl rfl Tryz.underlying29 sz40 (vl rfl) (vl rfl) (by omega) (by omega)) ?_
   refine Cx.ef0 0 rfl rfl (ef_store rfl rfl (vl rfl) (VL.le (vl rfl) (agg_cellsP _)) sz40 rfl (by rw [cells_len (sz := 8) (fun _ => rfl)]; first | omega | (simp only [List.length_set]; omega)) (cells_setG (f := rowFc) (fun _ => rfl) (by first | omega | (simp only [List.length_set]; omega)))) ?_
   refine Cx.nil ⟨rfl, ?_⟩
   refine FinX.done (AllC.cons (AllC.cons (AllC.map _))) ?_
   refine Fin.go ?_
   refine Tr.weak [(0, _), (3, _), (8, _), (9, _), (12, _)] ⟨⟨_, rfl, Pr.le_refl _⟩, ⟨_, rfl, Pr.le_refl _⟩, ⟨_, rfl, Pr.le_refl _⟩, ⟨_, rfl, Pr.le_refl _⟩, ⟨_, rfl, Pr.le_refl _⟩, trivial⟩ ?_
   refine Tr.regT ?_
   refine TO.op rfl rfl (by decide) (ok_move rfl (vl rfl)) ?_
   refine TO.op rfl rfl (by decide) (ok_move rfl (vl rfl)) ?_
   refine TO.op rfl rfl (by decide) (ok_move rfl (vl rfl)) ?_
   refine TO.op rfl rfl (by decide) (ok_move rfl (vl rfl)) ?_
   refine TO.op rfl rfl (by decide) (ok_move rfl (vl rfl)) ?_
   refine TO.efc 0 rfl rfl (by decide) (ef_callc rfl rfl (by decide) rfl (w_ssiftF (by first | omega | (simp only [List.length_set]; omega)) (by omega) (by omega) (by omega) (by omega) (by omega)) ⟨⟨_, rfl, Pr.le_refl _⟩, ⟨_, rfl, Pr.le_refl _⟩, ⟨_, rfl, Pr.le_refl _⟩, ⟨_, rfl, Pr.le_refl _⟩, ⟨_, rfl, Pr.le_refl _⟩, trivial⟩) ?_
   refine TO.openL 0 rfl fun t2 hp2 => ?_
   have hpl2 := hp2.len
   refine TO.nil ?_
   refine Fin.block ?_
   refine Fin.go ?_
   refine Tr.reg0 ?_
   refine Ch.op rfl rfl (by decide) (ok_move rfl (vl rfl)) ?_
   first
    | (refine Ch.op rfl rfl (by decide) (ok_sub rfl (vl rfl) (vl rfl) ?hin) ?_; case hin => unfold InI; omega)
    | refine Ch.op rfl rfl (by decide) (ok_int rfl (vl rfl) (vl rfl) rfl) ?_
   refine Ch.op rfl rfl (by decide) (ok_assign rfl (vl rfl)) ?_
   refine Ch.nil ?_
   exact Fin.famD2V0 (i2 - 1) (t2)  (⟨⟨⟨by omega, by omega⟩, by simp only [List.length_set] at hpl2; omega, by rw [hp2.2, sw (by omega) (by omega), show (a + i2).toNat = a.toNat + i2.toNat by omega]; exact (pop_go hib2).trans hso2⟩, by omega⟩) ⟨⟨_, rfl, Pr.le_refl _⟩, ⟨_, rfl, Pr.le_refl _⟩, ⟨_, rfl, Pr.le_refl _⟩, ⟨_, rfl, Pr.le_refl _⟩, ⟨_, rfl, Pr.le_refl _⟩, trivial⟩ (fun _ _ h => h)
  ·
   have q2 := Nrm.nrm h2
   have hib2 : ¬ 0 ≤ i2 := of_decide_eq_false h2
   rw [pop_end hib2] at hso2
   refine Tr.exit ?_
   refine Fin.then_exit ?_
   refine Fin.then_exit ?_
   refine Fin.block_here ?_
   refine Fin.closeL (SortL c a b l) 0 rfl (by unfold SortL; rw [hso2, hso]; exact heap_holds hw l.toArray h0 hab (by simp only [List.size_toArray]; omega)) ?_
   exact Fin.retM0 rfl
set_option maxRecDepth 20000 in
theorem w_srevF {l : List Fct} {c : Fct × Fct → Int} {b0 cap len : Nat} {sp : List Value} {a b : Int} (hln : l.length = len) (hll : len ≤ 1000000) (h0 : 0 ≤ a) (hab : a < b) (hb : b ≤ len) : FunM Tryz.prog 109 [is (.slice (some ⟨b0, 0, none⟩) len cap), int a, int b, clo Tryz.prog (fun x : Fct × Fct => [agg (rowFc x.1), agg (rowFc x.2)]) (fun x => int (c x))] (unit_) (cellsRes true b0 40 ((l.map rowFc).flatten ++ sp.map is)) (fun _ => relRes b0 40 rowFc (PermL a b l) (sp.map is)) := by
 refine FunM.of Tryz.func109 rfl rfl (by exact Nat.le_of_ble_eq_true rfl) fun M0 w0 S rs M1 w1 => ?_
 refine Tr.seq ?_
 refine Tr.reg0 ?_
 refine Ch.op rfl rfl (by decide) (ok_move rfl (vl rfl)) ?_
 refine Ch.op rfl rfl (by decide) (ok_assign rfl (vl rfl)) ?_
 refine Ch.nil ?_
 refine Fin.go ?_
 refine Tr.seq ?_
 refine Tr.reg0 ?_
 refine Ch.op rfl rfl (by decide) (ok_move rfl (vl rfl)) ?_
 first
  | (refine Ch.op rfl rfl (by decide) (ok_sub rfl (vl rfl) (vl rfl) ?hin) ?_; case hin => unfold InI; omega)
  | refine Ch.op rfl rfl (by decide) (ok_int rfl (vl rfl) (vl rfl) rfl) ?_
 refine Ch.op rfl rfl (by decide) (ok_assign rfl (vl rfl)) ?_
 refine Ch.nil ?_
 refine Fin.go ?_
 refine Tr.block ?_
 refine Tr.loopD3V0 [(0, _)] ⟨⟨_, rfl, Pr.le_refl _⟩, trivial⟩ (fun (i : Int) (j : Int) (st : List Fct) => [(8, int i), (9, int j)]) (fun (i : Int) (j : Int) (st : List Fct) => Hp M0 w0 S (cellsRes true b0 40 ((st.map rowFc).flatten ++ sp.map is) :: extRes M1 w1 :: rs)) (fun (i : Int) (j : Int) (st : List Fct) => (a ≤ i ∧ j < b ∧ -1 ≤ j ∧ i ≤ b) ∧ st.length = len ∧ PermL a b l st) (fun (i : Int) (j : Int) (st : List Fct) => (j - i).toNat) (a) (b - 1) (l)  (⟨⟨by omega, by omega, by omega, by omega⟩, by omega, PermL.refl _ _ _⟩) ⟨⟨_, rfl, Pr.le_refl _⟩, ⟨_, rfl, Pr.le_refl _⟩, trivial⟩ (fun _ _ h => h) ?_
 rintro i j st  ⟨⟨hi1, hi2, hi3, hi4⟩, hsl, hso⟩
 refine Tr.seq ?_
 refine Tr.seq ?_
 refine Tr.reg0 ?_
 refine Ch.op rfl rfl (by decide) (ok_move rfl (vl rfl)) ?_
 refine Ch.op rfl rfl (by decide) (ok_move rfl (vl rfl)) ?_
 refine Ch.op rfl rfl (by decide) (ok_int rfl (vl rfl) (vl rfl) rfl) ?_
 refine Ch.nil ?_
 refine Fin.go ?_
 refine Tr.cond rfl (fun h1 => ?_) (fun h1 => ?_)
 ·
  have q1 := Nrm.nrm h1
  have hij : i < j := of_decide_eq_true h1
  refine Tr.skip ?_
  refine Fin.go ?_
  refine Tr.block ?_
  refine Tr.seq ?_
  refine Tr.regX mixed [none, none, none, none, none, none, none, some (0, 0, false, 0), none, none, none, some (0, 0, false, 0), none, some (0, 0, true, 0), none, some (0, 0, true, 0)] (by kernel_rfl) ?_
  refine Cx.op rfl rfl (by decide) (fun _ => ok_move rfl (vl rfl)) ?_
  refine Cx.op rfl rfl (by decide) (fun _ => ok_move rfl (vl rfl)) ?_
  refine Cx.op rfl rfl (by decide) (fun _ => ok_move rfl (vl rfl)) ?_
  refine Cx.op rfl rfl (by decide) (fun _ => ok_move rfl (vl rfl)) ?_
  refine Cx.op rfl rfl (by decide) (fun _ => ok_move rfl (vl rfl)) ?_
  refine Cx.op rfl rfl (by decide) (fun _ => ok_move rfl (vl rfl)) ?_
  refine Cx.op rfl rfl (by decide) (fun _ => okp_indexSl rfl Tryz.underlying29 sz40 (vl rfl) (vl rfl) (by omega) (by omega)) ?_
  refine Cx.rd 0 rfl rfl rfl (by decide) (rd_loadA rfl agg40 sz40 (vl rfl) (cells_atG (f := rowFc) (fun _ => rfl) (by omega)) rfl) ?_
  refine Cx.op rfl rfl (by decide) (fun _ => ok_move rfl (vl rfl)) ?_
  refine Cx.op rfl rfl (by decide) (fun _ => ok_move rfl (vl rfl)) ?_
  refine Cx.op rfl rfl (by decide) (fun _ => okp_indexSl rfl Tryz.underlying29 sz40 (vl rfl) (vl rfl) (by omega) (by omega)) ?_
  refine Cx.rd 0 rfl rfl rfl (by decide) (rd_loadA rfl agg40 sz40 (vl rfl) (cells_atG (f := rowFc) (fun _ => rfl) (by omega)) rfl) ?_
  refine Cx.op rfl rfl (by decide) (fun _ => okp_indexSl rfl Tryz.underlying29 sz40 (vl rfl) (vl rfl) (by omega) (by omega)) ?_
  refine Cx.ef0 0 rfl rfl (ef_store rfl rfl (vl rfl) (VL.le (vl rfl) (agg_cellsP _)) sz40 rfl (by rw [cells_len (sz := 8) (fun _ => rfl)]; first | omega | (simp only [List.length_set]; omega)) (cells_setG (f := rowFc) (fun _ => rfl) (by first | omega | (simp only [List.length_set]; omega)))) ?_
  refine Cx.op rfl rfl (by decide) (fun _ => okp_indexSl rfl Tryz.underlying29 sz40 (vl rfl) (vl rfl) (by omega) (by omega)) ?_
  refine Cx.ef0 0 rfl rfl (ef_store rfl rfl (vl rfl) (VL.le (vl rfl) (agg_cellsP _)) sz40 rfl (by rw [cells_len (sz := 8) (fun _ => rfl)]; first | omega | (simp only [List.length_set]; omega)) (cells_setG (f := rowFc) (fun _ => rfl) (by first | omega | (simp only [List.length_set]; omega)))) ?_
  refine Cx.nil ⟨rfl, ?_⟩
  refine FinX.done (AllC.cons (AllC.cons (AllC.map _))) ?_
  refine Fin.go ?_
  refine Tr.weak [(0, _), (8, _), (9, _)] ⟨⟨_, rfl, Pr.le_refl _⟩, ⟨_, rfl, Pr.le_refl _⟩, ⟨_, rfl, Pr.le_refl _⟩, trivial⟩ ?_
  refine Tr.seq ?_
  refine Tr.reg0 ?_
  refine Ch.op rfl rfl (by decide) (ok_move rfl (vl rfl)) ?_
  first
   | (refine Ch.op rfl rfl (by decide) (ok_add rfl (vl rfl) (vl rfl) ?hin) ?_; case hin => unfold InI; omega)
   | refine Ch.op rfl rfl (by decide) (ok_int rfl (vl rfl) (vl rfl) rfl) ?_
  refine Ch.op rfl rfl (by decide) (ok_assign rfl (vl rfl)) ?_
  refine Ch.nil ?_
  refine Fin.go ?_
  refine Tr.reg0 ?_
  refine Ch.op rfl rfl (by decide) (ok_move rfl (vl rfl)) ?_
  first
   | (refine Ch.op rfl rfl (by decide) (ok_sub rfl (vl rfl) (vl rfl) ?hin) ?_; case hin => unfold InI; omega)
   | refine Ch.op rfl rfl (by decide) (ok_int rfl (vl rfl) (vl rfl) rfl) ?_
  refine Ch.op rfl rfl (by decide) (ok_assign rfl (vl rfl)) ?_
  refine Ch.nil ?_
  refine Fin.block ?_
  exact Fin.famD3V0 (i + 1) (j - 1) (_)  (⟨⟨⟨by omega, by omega, by omega, by omega⟩, by simp only [List.length_set]; exact hsl, hso.swap (by omega) (by omega) (by omega) (by omega) (by omega) (by omega) (by omega)⟩, by omega⟩) ⟨⟨_, rfl, Pr.le_refl _⟩, ⟨_, rfl, Pr.le_refl _⟩, ⟨_, rfl, Pr.le_refl _⟩, trivial⟩ (fun _ _ h => h)
 ·
  have q1 := Nrm.nrm h1
  have := h1
  refine Tr.exit ?_
  refine Fin.then_exit ?_
  refine Fin.then_exit ?_
  refine Fin.block_here ?_
  refine Fin.closeL (PermL a b l) 0 rfl (hso) ?_
  exact Fin.retM0 rfl
set_option maxRecDepth 20000 in
theorem w_speqF {l : List Fct} {c : Fct × Fct → Int} {b0 cap len : Nat} {sp : List Value} {a b pv : Int} (hln : l.length = len) (hll : len ≤ 1000000) (h0 : 0 ≤ a) (hab : a < b) (hb : b ≤ len) (hp1 : a ≤ pv) (hp2 : pv < b) : FunM Tryz.prog 111 [is (.slice (some ⟨b0, 0, none⟩) len cap), int a, int b, int pv, clo Tryz.prog (fun x : Fct × Fct => [agg (rowFc x.1), agg (rowFc x.2)]) (fun x => int (c x))] (int ((PE c a b pv l).1 : Nat)) (cellsRes true b0 40 ((l.map rowFc).flatten ++ sp.map is)) (fun _ => relRes b0 40 rowFc (PartE c a b pv l) (sp.map is)) := by
 refine FunM.of Tryz.func111 rfl rfl (by exact Nat.le_of_ble_eq_true rfl) fun M0 w0 S rs M1 w1 => ?_
 have hal : a.toNat < l.length := by omega
 have hpv : pv.toNat < l.length := by omega
 refine Tr.seq ?_
 refine Tr.reg0 ?_
 refine Ch.op rfl rfl (by decide) (ok_assign rfl (vl rfl)) ?_
 refine Ch.nil ?_
 refine Fin.go ?_
 refine Tr.seq ?_
 refine Tr.regX mixed [none, none, none, none, none, none, none, some (0, 0, false, 0), none, none, none, some (0, 0, false, 0), none, some (0, 0, true, 0), none, some (0, 0, true, 0)] (by kernel_rfl) ?_
 refine Cx.op rfl rfl (by decide) (fun _ => ok_move rfl (vl rfl)) ?_
 refine Cx.op rfl rfl (by decide) (fun _ => ok_move rfl (vl rfl)) ?_
 refine Cx.op rfl rfl (by decide) (fun _ => ok_move rfl (vl rfl)) ?_
 refine Cx.op rfl rfl (by decide) (fun _ => ok_move rfl (vl rfl)) ?_
 refine Cx.op rfl rfl (by decide) (fun _ => ok_move rfl (vl rfl)) ?_
 refine Cx.op rfl rfl (by decide) (fun _ => ok_move rfl (vl rfl)) ?_
 refine Cx.op rfl rfl (by decide) (fun _ => okp_indexSl rfl Tryz.underlying29 sz40 (vl rfl) (vl rfl) (by omega) (by omega)) ?_
 refine Cx.rd 0 rfl rfl rfl (by decide) (rd_loadA rfl agg40 sz40 (vl rfl) (cells_atG (f := rowFc) (fun _ => rfl) (by omega)) rfl) ?_
 refine Cx.op rfl rfl (by decide) (fun _ => ok_move rfl (vl rfl)) ?_
 refine Cx.op rfl rfl (by decide) (fun _ => ok_move rfl (vl rfl)) ?_
 refine Cx.op rfl rfl (by decide) (fun _ => okp_indexSl rfl Tryz.underlying29 sz40 (vl rfl) (vl rfl) (by omega) (by omega)) ?_
 refine Cx.rd 0 rfl rfl rfl (by decide) (rd_loadA rfl agg40 sz40 (vl rfl) (cells_atG (f := rowFc) (fun _ => rfl) (by omega)) rfl) ?_
 refine Cx.op rfl rfl (by decide) (fun _ => okp_indexSl rfl Tryz.underlying29 sz40 (vl rfl) (vl rfl) (by omega) (by omega)) ?_
 refine Cx.ef0 0 rfl rfl (ef_store rfl rfl (vl rfl) (VL.le (vl rfl) (agg_cellsP _)) sz40 rfl (by rw [cells_len (sz := 8) (fun _ => rfl)]; first | omega | (simp only [List.length_set]; omega)) (cells_setG (f := rowFc) (fun _ => rfl) (by first | omega | (simp only [List.length_set]; omega)))) ?_
 refine Cx.op rfl rfl (by decide) (fun _ => okp_indexSl rfl Tryz.underlying29 sz40 (vl rfl) (vl rfl) (by omega) (by omega)) ?_
 refine Cx.ef0 0 rfl rfl (ef_store rfl rfl (vl rfl) (VL.le (vl rfl) (agg_cellsP _)) sz40 rfl (by rw [cells_len (sz := 8) (fun _ => rfl)]; first | omega | (simp only [List.length_set]; omega)) (cells_setG (f := rowFc) (fun _ => rfl) (by first | omega | (simp only [List.length_set]; omega)))) ?_
 refine Cx.nil ⟨rfl, ?_⟩
 refine FinX.done (AllC.cons (AllC.cons (AllC.map _))) ?_
 refine Fin.go ?_
 refine Tr.weak [(0, _), (1, _), (2, _), (4, _)] ⟨⟨_, rfl, Pr.le_refl _⟩, ⟨_, rfl, Pr.le_refl _⟩, ⟨_, rfl, Pr.le_refl _⟩, ⟨_, rfl, Pr.le_refl _⟩, trivial⟩ ?_
 refine Tr.seq ?_
 refine Tr.reg0 ?_
 refine Ch.op rfl rfl (by decide) (ok_move rfl (vl rfl)) ?_
 first
  | (refine Ch.op rfl rfl (by decide) (ok_add rfl (vl rfl) (vl rfl) ?hin) ?_; case hin => unfold InI; omega)
  | refine Ch.op rfl rfl (by decide) (ok_int rfl (vl rfl) (vl rfl) rfl) ?_
 refine Ch.op rfl rfl (by decide) (ok_move rfl (vl rfl)) ?_
 first
  | (refine Ch.op rfl rfl (by decide) (ok_sub rfl (vl rfl) (vl rfl) ?hin) ?_; case hin => unfold InI; omega)
  | refine Ch.op rfl rfl (by decide) (ok_int rfl (vl rfl) (vl rfl) rfl) ?_
 refine Ch.op rfl rfl (by decide) (ok_assign rfl (vl rfl)) ?_
 refine Ch.op rfl rfl (by decide) (ok_assign rfl (vl rfl)) ?_
 refine Ch.nil ?_
 refine Fin.go ?_
 refine Tr.seq ?_
 refine Tr.block ?_
 refine Tr.loopD3V0 [(0, _), (1, _), (4, _)] ⟨⟨_, rfl, Pr.le_refl _⟩, ⟨_, rfl, Pr.le_refl _⟩, ⟨_, rfl, Pr.le_refl _⟩, trivial⟩ (fun (i : Int) (j : Int) (st : List Fct) => [(11, int i), (12, int j)]) (fun (i : Int) (j : Int) (st : List Fct) => Hp M0 w0 S (cellsRes true b0 40 ((st.map rowFc).flatten ++ sp.map is) :: extRes M1 w1 :: rs)) (fun (i : Int) (j : Int) (st : List Fct) => ((a < i ∧ i ≤ b) ∧ a ≤ j ∧ j < b) ∧ st.length = len ∧ PLe c a i j st.toArray = PE c a b pv l) (fun (i : Int) (j : Int) (st : List Fct) => (j - i + 2).toNat) (a + 1) (b - 1) (((l.set a.toNat (l[pv.toNat]'hpv)).set pv.toNat (l[a.toNat]'hal)))  (⟨⟨⟨by omega, by omega⟩, by omega, by omega⟩, by simp only [List.length_set]; exact hln, pe_start h0 hab hal hpv⟩) ⟨⟨_, rfl, Pr.le_refl _⟩, ⟨_, rfl, Pr.le_refl _⟩, trivial⟩ (fun _ _ h => h) ?_
 rintro i j st  ⟨⟨⟨hi1, hi2⟩, hj1, hj2⟩, hsl, hso⟩
 refine Tr.block ?_
 refine Tr.weak [(0, _), (1, _), (4, _), (11, _), (12, _)] ⟨⟨_, rfl, Pr.le_refl _⟩, ⟨_, rfl, Pr.le_refl _⟩, ⟨_, rfl, Pr.le_refl _⟩, ⟨_, rfl, Pr.le_refl _⟩, ⟨_, rfl, Pr.le_refl _⟩, trivial⟩ ?_
 refine Tr.cutk [0, 1, 4, 12] [(11, ex fun y : Int => fact ((i ≤ y ∧ y ≤ b) ∧ True ∧ y.toNat = Go.Sort.scanUp (qU c st.toArray a) st.toArray (j).toNat (i).toNat) (int y))] (True) ?_ (fun h1 => ?_)
 ·
  refine Tr.block ?_
  refine Tr.loopw [(0, _), (1, _), (4, _), (12, _)] ⟨⟨_, rfl, Pr.le_refl _⟩, ⟨_, rfl, Pr.le_refl _⟩, ⟨_, rfl, Pr.le_refl _⟩, ⟨_, rfl, Pr.le_refl _⟩, trivial⟩ (fun y : Int => [(11, int y)]) (fun y : Int => (i ≤ y ∧ y ≤ b) ∧ Go.Sort.scanUp (qU c st.toArray a) st.toArray (j).toNat (y).toNat = Go.Sort.scanUp (qU c st.toArray a) st.toArray (j).toNat (i).toNat) (fun y : Int => (b - y).toNat) i (⟨⟨by omega, by omega⟩, rfl⟩) ⟨⟨_, rfl, Pr.le_refl _⟩, trivial⟩ ?_
  rintro y ⟨⟨hscAa, hscAb⟩, hscAc⟩
  refine Tr.seq ?_
  refine Tr.seq ?_
  refine Tr.reg1 mixed (by kernel_rfl) ?_
  refine Ch.op rfl rfl (by decide) (ok_move rfl (vl rfl)) ?_
  refine Ch.op rfl rfl (by decide) (ok_move rfl (vl rfl)) ?_
  refine Ch.op rfl rfl (by decide) (ok_int rfl (vl rfl) (vl rfl) rfl) ?_
  refine Ch.op rfl rfl (by decide) (ok_move rfl (vl rfl)) ?_
  refine Ch.cases 34 rfl (fun h2 => ?_) (fun h2 => ?_)
  ·
   have q2 := Nrm.nrm h2
   refine Ch.yes rfl rfl rfl h2 rfl (by decide) (ok_move rfl (vl rfl)) ?_
   refine Ch.yes rfl rfl rfl h2 rfl (by decide) (ok_move rfl (vl rfl)) ?_
   refine Ch.yes rfl rfl rfl h2 rfl (by decide) (ok_move rfl (vl rfl)) ?_
   refine Ch.yes rfl rfl rfl h2 rfl (by decide) (okp_indexSl rfl Tryz.underlying29 sz40 (vl rfl) (vl rfl) (by omega) (by omega)) ?_
   refine Ch.yes rfl rfl rfl h2 rfl (by decide) (ok_rd 0 rfl (rd_loadA rfl agg40 sz40 (vl rfl) (cells_atG (f := rowFc) (fun _ => rfl) (by omega)) rfl)) ?_
   refine Ch.yes rfl rfl rfl h2 rfl (by decide) (ok_move rfl (vl rfl)) ?_
   refine Ch.yes rfl rfl rfl h2 rfl (by decide) (ok_move rfl (vl rfl)) ?_
   refine Ch.yes rfl rfl rfl h2 rfl (by decide) (okp_indexSl rfl Tryz.underlying29 sz40 (vl rfl) (vl rfl) (by omega) (by omega)) ?_
   refine Ch.yes rfl rfl rfl h2 rfl (by decide) (ok_rd 0 rfl (rd_loadA rfl agg40 sz40 (vl rfl) (cells_atG (f := rowFc) (fun _ => rfl) (by omega)) rfl)) ?_
   refine Ch.yes rfl rfl rfl h2 rfl (by decide) (ok_callc (_, _) rfl (vl rfl) ⟨⟨_, rfl, Pr.le_refl _⟩, ⟨_, rfl, Pr.le_refl _⟩, trivial⟩) ?_
   refine Ch.yes rfl rfl rfl h2 rfl (by decide) (ok_int rfl (vl rfl) (vl rfl) rfl) ?_
   refine Ch.yes rfl rfl rfl h2 rfl (by decide) (ok_not rfl (vl rfl)) ?_
   refine Ch.op rfl rfl (by decide) (ok_pick_t rfl (vl rfl) h2 (vl rfl)) ?_
   refine Ch.nil ?_
   refine Fin.go ?_
   refine Tr.weak [(0, _), (1, _), (4, _), (11, _), (12, _), (47, _)] ⟨⟨_, rfl, Pr.le_refl _⟩, ⟨_, rfl, Pr.le_refl _⟩, ⟨_, rfl, Pr.le_refl _⟩, ⟨_, rfl, Pr.le_refl _⟩, ⟨_, rfl, Pr.le_refl _⟩, ⟨_, rfl, Pr.le_refl _⟩, trivial⟩ ?_
   refine Tr.cond rfl (fun h3 => ?_) (fun h3 => ?_)
   ·
    have q3 := Nrm.nrm h3
    have := h3
    refine Tr.skip ?_
    refine Fin.go ?_
    refine Tr.block ?_
    refine Tr.reg0 ?_
    refine Ch.op rfl rfl (by decide) (ok_move rfl (vl rfl)) ?_
    first
     | (refine Ch.op rfl rfl (by decide) (ok_add rfl (vl rfl) (vl rfl) ?hin) ?_; case hin => unfold InI; omega)
     | refine Ch.op rfl rfl (by decide) (ok_int rfl (vl rfl) (vl rfl) rfl) ?_
    refine Ch.op rfl rfl (by decide) (ok_assign rfl (vl rfl)) ?_
    refine Ch.nil ?_
    refine Fin.block ?_
    exact Fin.fam_same (y + 1) ⟨⟨⟨by omega, by omega⟩, by rw [su_go (by omega) (by omega) (by omega) (qU_t (by omega) (by omega) (Int.not_lt.2 (by assumption)))]; exact hscAc⟩, by omega⟩ ⟨⟨_, rfl, Pr.le_refl _⟩, ⟨_, rfl, Pr.le_refl _⟩, ⟨_, rfl, Pr.le_refl _⟩, ⟨_, rfl, Pr.le_refl _⟩, ⟨_, rfl, Pr.le_refl _⟩, trivial⟩
   ·
    have q3 := Nrm.nrm h3
    have := h3
    refine Tr.exit ?_
    refine Fin.then_exit ?_
    refine Fin.then_exit ?_
    refine Fin.block_here ?_
    exact Fin.fam_same () trivial ⟨⟨_, rfl, ex_in _ (fact_in ⟨⟨by omega, by omega⟩, trivial, by rw [← hscAc]; first | exact (su_stopA (by omega) (by omega)).symm | exact (su_stopB (by omega) (qU_f (by omega) (by omega) (by assumption))).symm⟩ (Pr.le_refl _))⟩, ⟨_, rfl, Pr.le_refl _⟩, ⟨_, rfl, Pr.le_refl _⟩, ⟨_, rfl, Pr.le_refl _⟩, ⟨_, rfl, Pr.le_refl _⟩, trivial⟩
  ·
   have q2 := Nrm.nrm h2
   refine Ch.no rfl rfl rfl (ne_true h2) rfl (by decide) ?_
   refine Ch.no rfl rfl rfl (ne_true h2) rfl (by decide) ?_
   refine Ch.no rfl rfl rfl (ne_true h2) rfl (by decide) ?_
   refine Ch.no rfl rfl rfl (ne_true h2) rfl (by decide) ?_
   refine Ch.no rfl rfl rfl (ne_true h2) rfl (by decide) ?_
   refine Ch.no rfl rfl rfl (ne_true h2) rfl (by decide) ?_
   refine Ch.no rfl rfl rfl (ne_true h2) rfl (by decide) ?_
   refine Ch.no rfl rfl rfl (ne_true h2) rfl (by decide) ?_
   refine Ch.no rfl rfl rfl (ne_true h2) rfl (by decide) ?_
   refine Ch.no rfl rfl rfl (ne_true h2) rfl (by decide) ?_
   refine Ch.no rfl rfl rfl (ne_true h2) rfl (by decide) ?_
   refine Ch.no rfl rfl rfl (ne_true h2) rfl (by decide) ?_
   refine Ch.op rfl rfl (by decide) (ok_pick_f rfl (vl rfl) h2 (vl rfl)) ?_
   refine Ch.nil ?_
   refine Fin.go ?_
   refine Tr.weak [(0, _), (1, _), (4, _), (11, _), (12, _), (47, _)] ⟨⟨_, rfl, Pr.le_refl _⟩, ⟨_, rfl, Pr.le_refl _⟩, ⟨_, rfl, Pr.le_refl _⟩, ⟨_, rfl, Pr.le_refl _⟩, ⟨_, rfl, Pr.le_refl _⟩, ⟨_, rfl, Pr.le_refl _⟩, trivial⟩ ?_
   refine Tr.cond rfl (fun h => nomatch h) (fun _ => ?_)
   refine Tr.exit ?_
   refine Fin.then_exit ?_
   refine Fin.then_exit ?_
   refine Fin.block_here ?_
   exact Fin.fam_same () trivial ⟨⟨_, rfl, ex_in _ (fact_in ⟨⟨by omega, by omega⟩, trivial, by rw [← hscAc]; first | exact (su_stopA (by omega) (by omega)).symm | exact (su_stopB (by omega) (qU_f (by omega) (by omega) (by assumption))).symm⟩ (Pr.le_refl _))⟩, ⟨_, rfl, Pr.le_refl _⟩, ⟨_, rfl, Pr.le_refl _⟩, ⟨_, rfl, Pr.le_refl _⟩, ⟨_, rfl, Pr.le_refl _⟩, trivial⟩
 ·
  refine Tr.ex 11 rfl (fun i2 => Tr.fact 11 rfl fun hci2 => ?_)
  obtain ⟨hci2a, hci2b, hci2c⟩ := hci2
  refine Tr.weak [(0, _), (1, _), (4, _), (11, _), (12, _)] ⟨⟨_, rfl, Pr.le_refl _⟩, ⟨_, rfl, Pr.le_refl _⟩, ⟨_, rfl, Pr.le_refl _⟩, ⟨_, rfl, Pr.le_refl _⟩, ⟨_, rfl, Pr.le_refl _⟩, trivial⟩ ?_
  refine Tr.cutk [0, 1, 4, 11] [(12, ex fun y : Int => fact ((a ≤ y ∧ y ≤ j) ∧ True ∧ y.toNat = Go.Sort.scanDown (qD c st.toArray a) st.toArray (i2).toNat (j).toNat) (int y))] (True) ?_ (fun h4 => ?_)
  ·
   refine Tr.block ?_
   refine Tr.loopw [(0, _), (1, _), (4, _), (11, _)] ⟨⟨_, rfl, Pr.le_refl _⟩, ⟨_, rfl, Pr.le_refl _⟩, ⟨_, rfl, Pr.le_refl _⟩, ⟨_, rfl, Pr.le_refl _⟩, trivial⟩ (fun y : Int => [(12, int y)]) (fun y : Int => (a ≤ y ∧ y ≤ j) ∧ Go.Sort.scanDown (qD c st.toArray a) st.toArray (i2).toNat (y).toNat = Go.Sort.scanDown (qD c st.toArray a) st.toArray (i2).toNat (j).toNat) (fun y : Int => (y - a).toNat) j (⟨⟨by omega, by omega⟩, rfl⟩) ⟨⟨_, rfl, Pr.le_refl _⟩, trivial⟩ ?_
   rintro y ⟨⟨hscBa, hscBb⟩, hscBc⟩
   refine Tr.seq ?_
   refine Tr.seq ?_
   refine Tr.reg1 mixed (by kernel_rfl) ?_
   refine Ch.op rfl rfl (by decide) (ok_move rfl (vl rfl)) ?_
   refine Ch.op rfl rfl (by decide) (ok_move rfl (vl rfl)) ?_
   refine Ch.op rfl rfl (by decide) (ok_int rfl (vl rfl) (vl rfl) rfl) ?_
   refine Ch.op rfl rfl (by decide) (ok_move rfl (vl rfl)) ?_
   refine Ch.cases 53 rfl (fun h5 => ?_) (fun h5 => ?_)
   ·
    have q5 := Nrm.nrm h5
    refine Ch.yes rfl rfl rfl h5 rfl (by decide) (ok_move rfl (vl rfl)) ?_
    refine Ch.yes rfl rfl rfl h5 rfl (by decide) (ok_move rfl (vl rfl)) ?_
    refine Ch.yes rfl rfl rfl h5 rfl (by decide) (ok_move rfl (vl rfl)) ?_
    refine Ch.yes rfl rfl rfl h5 rfl (by decide) (okp_indexSl rfl Tryz.underlying29 sz40 (vl rfl) (vl rfl) (by omega) (by omega)) ?_
    refine Ch.yes rfl rfl rfl h5 rfl (by decide) (ok_rd 0 rfl (rd_loadA rfl agg40 sz40 (vl rfl) (cells_atG (f := rowFc) (fun _ => rfl) (by omega)) rfl)) ?_
    refine Ch.yes rfl rfl rfl h5 rfl (by decide) (ok_move rfl (vl rfl)) ?_
    refine Ch.yes rfl rfl rfl h5 rfl (by decide) (ok_move rfl (vl rfl)) ?_
    refine Ch.yes rfl rfl rfl h5 rfl (by decide) (okp_indexSl rfl Tryz.underlying29 sz40 (vl rfl) (vl rfl) (by omega) (by omega)) ?_
    refine Ch.yes rfl rfl rfl h5 rfl (by decide) (ok_rd 0 rfl (rd_loadA rfl agg40 sz40 (vl rfl) (cells_atG (f := rowFc) (fun _ => rfl) (by omega)) rfl)) ?_
    refine Ch.yes rfl rfl rfl h5 rfl (by decide) (ok_callc (_, _) rfl (vl rfl) ⟨⟨_, rfl, Pr.le_refl _⟩, ⟨_, rfl, Pr.le_refl _⟩, trivial⟩) ?_
    refine Ch.yes rfl rfl rfl h5 rfl (by decide) (ok_int rfl (vl rfl) (vl rfl) rfl) ?_
    refine Ch.op rfl rfl (by decide) (ok_pick_t rfl (vl rfl) h5 (vl rfl)) ?_
    refine Ch.nil ?_
    refine Fin.go ?_
    refine Tr.weak [(0, _), (1, _), (4, _), (11, _), (12, _), (65, _)] ⟨⟨_, rfl, Pr.le_refl _⟩, ⟨_, rfl, Pr.le_refl _⟩, ⟨_, rfl, Pr.le_refl _⟩, ⟨_, rfl, Pr.le_refl _⟩, ⟨_, rfl, Pr.le_refl _⟩, ⟨_, rfl, Pr.le_refl _⟩, trivial⟩ ?_
    refine Tr.cond rfl (fun h6 => ?_) (fun h6 => ?_)
    ·
     have q6 := Nrm.nrm h6
     have := h6
     refine Tr.skip ?_
     refine Fin.go ?_
     refine Tr.block ?_
     refine Tr.reg0 ?_
     refine Ch.op rfl rfl (by decide) (ok_move rfl (vl rfl)) ?_
     first
      | (refine Ch.op rfl rfl (by decide) (ok_sub rfl (vl rfl) (vl rfl) ?hin) ?_; case hin => unfold InI; omega)
      | refine Ch.op rfl rfl (by decide) (ok_int rfl (vl rfl) (vl rfl) rfl) ?_
     refine Ch.op rfl rfl (by decide) (ok_assign rfl (vl rfl)) ?_
     refine Ch.nil ?_
     refine Fin.block ?_
     exact Fin.fam_same (y - 1) ⟨⟨⟨by omega, by omega⟩, by rw [sd_go (by omega) (by omega) (by omega) (qD_t (by omega) (by omega) (by assumption))]; exact hscBc⟩, by omega⟩ ⟨⟨_, rfl, Pr.le_refl _⟩, ⟨_, rfl, Pr.le_refl _⟩, ⟨_, rfl, Pr.le_refl _⟩, ⟨_, rfl, Pr.le_refl _⟩, ⟨_, rfl, Pr.le_refl _⟩, trivial⟩
    ·
     have q6 := Nrm.nrm h6
     have := h6
     refine Tr.exit ?_
     refine Fin.then_exit ?_
     refine Fin.then_exit ?_
     refine Fin.block_here ?_
     exact Fin.fam_same () trivial ⟨⟨_, rfl, ex_in _ (fact_in ⟨⟨by omega, by omega⟩, trivial, by rw [← hscBc]; first | exact (sd_stopA (by omega) (by omega)).symm | exact (sd_stopB (by omega) (qD_f (by omega) (by omega) (Int.not_lt.2 (by assumption)))).symm⟩ (Pr.le_refl _))⟩, ⟨_, rfl, Pr.le_refl _⟩, ⟨_, rfl, Pr.le_refl _⟩, ⟨_, rfl, Pr.le_refl _⟩, ⟨_, rfl, Pr.le_refl _⟩, trivial⟩
   ·
    have q5 := Nrm.nrm h5
    refine Ch.no rfl rfl rfl (ne_true h5) rfl (by decide) ?_
    refine Ch.no rfl rfl rfl (ne_true h5) rfl (by decide) ?_
    refine Ch.no rfl rfl rfl (ne_true h5) rfl (by decide) ?_
    refine Ch.no rfl rfl rfl (ne_true h5) rfl (by decide) ?_
    refine Ch.no rfl rfl rfl (ne_true h5) rfl (by decide) ?_
    refine Ch.no rfl rfl rfl (ne_true h5) rfl (by decide) ?_
    refine Ch.no rfl rfl rfl (ne_true h5) rfl (by decide) ?_
    refine Ch.no rfl rfl rfl (ne_true h5) rfl (by decide) ?_
    refine Ch.no rfl rfl rfl (ne_true h5) rfl (by decide) ?_
    refine Ch.no rfl rfl rfl (ne_true h5) rfl (by decide) ?_
    refine Ch.no rfl rfl rfl (ne_true h5) rfl (by decide) ?_
    refine Ch.op rfl rfl (by decide) (ok_pick_f rfl (vl rfl) h5 (vl rfl)) ?_
    refine Ch.nil ?_
    refine Fin.go ?_
    refine Tr.weak [(0, _), (1, _), (4, _), (11, _), (12, _), (65, _)] ⟨⟨_, rfl, Pr.le_refl _⟩, ⟨_, rfl, Pr.le_refl _⟩, ⟨_, rfl, Pr.le_refl _⟩, ⟨_, rfl, Pr.le_refl _⟩, ⟨_, rfl, Pr.le_refl _⟩, ⟨_, rfl, Pr.le_refl _⟩, trivial⟩ ?_
    refine Tr.cond rfl (fun h => nomatch h) (fun _ => ?_)
    refine Tr.exit ?_
    refine Fin.then_exit ?_
    refine Fin.then_exit ?_
    refine Fin.block_here ?_
    exact Fin.fam_same () trivial ⟨⟨_, rfl, ex_in _ (fact_in ⟨⟨by omega, by omega⟩, trivial, by rw [← hscBc]; first | exact (sd_stopA (by omega) (by omega)).symm | exact (sd_stopB (by omega) (qD_f (by omega) (by omega) (Int.not_lt.2 (by assumption)))).symm⟩ (Pr.le_refl _))⟩, ⟨_, rfl, Pr.le_refl _⟩, ⟨_, rfl, Pr.le_refl _⟩, ⟨_, rfl, Pr.le_refl _⟩, ⟨_, rfl, Pr.le_refl _⟩, trivial⟩
  ·
   refine Tr.ex 12 rfl (fun j2 => Tr.fact 12 rfl fun hcj2 => ?_)
   obtain ⟨hcj2a, hcj2b, hcj2c⟩ := hcj2
   refine Tr.seq ?_
   refine Tr.seq ?_
   refine Tr.reg0 ?_
   refine Ch.op rfl rfl (by decide) (ok_move rfl (vl rfl)) ?_
   refine Ch.op rfl rfl (by decide) (ok_move rfl (vl rfl)) ?_
   refine Ch.op rfl rfl (by decide) (ok_int rfl (vl rfl) (vl rfl) rfl) ?_
   refine Ch.nil ?_
   refine Fin.go ?_
   refine Tr.cond rfl (fun h7 => ?_) (fun h7 => ?_)
   ·
    have q7 := Nrm.nrm h7
    refine Tr.exit ?_
    refine Fin.then_exit ?_
    refine Fin.block_on rfl ?_
    refine Fin.then_exit ?_
    refine Fin.block_here ?_
    refine Fin.go ?_
    refine Tr.seq ?_
    refine Tr.reg0 ?_
    refine Ch.op rfl rfl (by decide) (ok_move rfl (vl rfl)) ?_
    refine Ch.op rfl rfl (by decide) (ok_assign rfl (vl rfl)) ?_
    refine Ch.nil ?_
    refine Fin.go ?_
    refine Tr.ret ?_
    refine Fin.closeL (PartE c a b pv l) 0 rfl (⟨by omega, by rw [hso.symm.trans (peq_stop hci2c hcj2c (by omega) (by omega))]⟩) ?_
    have hE := hso.symm.trans (peq_stop hci2c hcj2c (by omega) (by omega))
    refine Fin.retM1 rfl rfl ?_ (fun _ _ _ _ => rfl)
    · exact int_eq (by rw [hE]; show i2 = ((i2.toNat : Nat) : Int); omega)
   ·
    have q7 := Nrm.nrm h7
    refine Tr.skip ?_
    refine Fin.go ?_
    refine Tr.seq ?_
    refine Tr.regX mixed [none, none, none, none, none, none, none, some (0, 0, false, 0), none, none, none, some (0, 0, false, 0), none, some (0, 0, true, 0), none, some (0, 0, true, 0)] (by kernel_rfl) ?_
    refine Cx.op rfl rfl (by decide) (fun _ => ok_move rfl (vl rfl)) ?_
    refine Cx.op rfl rfl (by decide) (fun _ => ok_move rfl (vl rfl)) ?_
    refine Cx.op rfl rfl (by decide) (fun _ => ok_move rfl (vl rfl)) ?_
    refine Cx.op rfl rfl (by decide) (fun _ => ok_move rfl (vl rfl)) ?_
    refine Cx.op rfl rfl (by decide) (fun _ => ok_move rfl (vl rfl)) ?_
    refine Cx.op rfl rfl (by decide) (fun _ => ok_move rfl (vl rfl)) ?_
    refine Cx.op rfl rfl (by decide) (fun _ => okp_indexSl rfl Tryz.underlying29 sz40 (vl rfl) (vl rfl) (by omega) (by omega)) ?_
    refine Cx.rd 0 rfl rfl rfl (by decide) (rd_loadA rfl agg40 sz40 (vl rfl) (cells_atG (f := rowFc) (fun _ => rfl) (by omega)) rfl) ?_
    refine Cx.op rfl rfl (by decide) (fun _ => ok_move rfl (vl rfl)) ?_
    refine Cx.op rfl rfl (by decide) (fun _ => ok_move rfl (vl rfl)) ?_
    refine Cx.op rfl rfl (by decide) (fun _ => okp_indexSl rfl Tryz.underlying29 sz40 (vl rfl) (vl rfl) (by omega) (by omega)) ?_
    refine Cx.rd 0 rfl rfl rfl (by decide) (rd_loadA rfl agg40 sz40 (vl rfl) (cells_atG (f := rowFc) (fun _ => rfl) (by omega)) rfl) ?_
    refine Cx.op rfl rfl (by decide) (fun _ => okp_indexSl rfl Tryz.underlying29 sz40 (vl rfl) (vl rfl) (by omega) (by omega)) ?_
    refine Cx.ef0 0 rfl rfl (ef_store rfl rfl (vl rfl) (VL.le (vl rfl) (agg_cellsP _)) sz40 rfl (by rw [cells_len (sz := 8) (fun _ => rfl)]; first | omega | (simp only [List.length_set]; omega)) (cells_setG (f := rowFc) (fun _ => rfl) (by first | omega | (simp only [List.length_set]; omega)))) ?_
    refine Cx.op rfl rfl (by decide) (fun _ => okp_indexSl rfl Tryz.underlying29 sz40 (vl rfl) (vl rfl) (by omega) (by omega)) ?_
    refine Cx.ef0 0 rfl rfl (ef_store rfl rfl (vl rfl) (VL.le (vl rfl) (agg_cellsP _)) sz40 rfl (by rw [cells_len (sz := 8) (fun _ => rfl)]; first | omega | (simp only [List.length_set]; omega)) (cells_setG (f := rowFc) (fun _ => rfl) (by first | omega | (simp only [List.length_set]; omega)))) ?_
    refine Cx.nil ⟨rfl, ?_⟩
    refine FinX.done (AllC.cons (AllC.cons (AllC.map _))) ?_
    refine Fin.go ?_
    refine Tr.weak [(0, _), (1, _), (4, _), (11, _), (12, _)] ⟨⟨_, rfl, Pr.le_refl _⟩, ⟨_, rfl, Pr.le_refl _⟩, ⟨_, rfl, Pr.le_refl _⟩, ⟨_, rfl, Pr.le_refl _⟩, ⟨_, rfl, Pr.le_refl _⟩, trivial⟩ ?_
    refine Tr.seq ?_
    refine Tr.reg0 ?_
    refine Ch.op rfl rfl (by decide) (ok_move rfl (vl rfl)) ?_
    first
     | (refine Ch.op rfl rfl (by decide) (ok_add rfl (vl rfl) (vl rfl) ?hin) ?_; case hin => unfold InI; omega)
     | refine Ch.op rfl rfl (by decide) (ok_int rfl (vl rfl) (vl rfl) rfl) ?_
    refine Ch.op rfl rfl (by decide) (ok_assign rfl (vl rfl)) ?_
    refine Ch.nil ?_
    refine Fin.go ?_
    refine Tr.reg0 ?_
    refine Ch.op rfl rfl (by decide) (ok_move rfl (vl rfl)) ?_
    first
     | (refine Ch.op rfl rfl (by decide) (ok_sub rfl (vl rfl) (vl rfl) ?hin) ?_; case hin => unfold InI; omega)
     | refine Ch.op rfl rfl (by decide) (ok_int rfl (vl rfl) (vl rfl) rfl) ?_
    refine Ch.op rfl rfl (by decide) (ok_assign rfl (vl rfl)) ?_
    refine Ch.nil ?_
    refine Fin.block ?_
    exact Fin.famD3V0 (i2 + 1) (j2 - 1) (_)  (⟨⟨⟨⟨by omega, by omega⟩, by omega, by omega⟩, by simp only [List.length_set]; exact hsl, (peq_go hci2c hcj2c (by omega) (by omega) (by omega) (by omega)).trans hso⟩, by omega⟩) ⟨⟨_, rfl, Pr.le_refl _⟩, ⟨_, rfl, Pr.le_refl _⟩, ⟨_, rfl, Pr.le_refl _⟩, ⟨_, rfl, Pr.le_refl _⟩, ⟨_, rfl, Pr.le_refl _⟩, trivial⟩ (fun _ _ h => h)
set_option maxRecDepth 20000 in
set_option maxHeartbeats 1000000 in
theorem w_spartF {l : List Fct} {c : Fct × Fct → Int} {b0 cap len : Nat} {sp : List Value} {a b pv : Int} (hln : l.length = len) (hll : len ≤ 1000000) (h0 : 0 ≤ a) (hab : a < b) (hb : b ≤ len) (hp1 : a ≤ pv) (hp2 : pv < b) : FunM Tryz.prog 112 [is (.slice (some ⟨b0, 0, none⟩) len cap), int a, int b, int pv, clo Tryz.prog (fun x : Fct × Fct => [agg (rowFc x.1), agg (rowFc x.2)]) (fun x => int (c x))] (ex fun z : Bool => fact True (tup [int ((PA c a b pv l).1 : Nat), bool z])) (cellsRes true b0 40 ((l.map rowFc).flatten ++ sp.map is)) (fun _ => relRes b0 40 rowFc (PartL c a b pv l) (sp.map is)) := by
 refine FunM.of Tryz.func112 rfl rfl (by exact Nat.le_of_ble_eq_true rfl) fun M0 w0 S rs M1 w1 => ?_
 have hal : a.toNat < l.length := by omega
 have hpv : pv.toNat < l.length := by omega
 have hS1 : ((l.set a.toNat (l[pv.toNat]'hpv)).set pv.toNat (l[a.toNat]'hal)).length = len := by simp only [List.length_set]; exact hln
 refine Tr.seq ?_
 refine Tr.reg0 ?_
 refine Ch.op rfl rfl (by decide) (ok_assign rfl (vl rfl)) ?_
 refine Ch.op rfl rfl (by decide) (ok_assign rfl (vl rfl)) ?_
 refine Ch.nil ?_
 refine Fin.go ?_
 refine Tr.seq ?_
 refine Tr.regX mixed [none, none, none, none, none, none, none, some (0, 0, false, 0), none, none, none, some (0, 0, false, 0), none, some (0, 0, true, 0), none, some (0, 0, true, 0)] (by kernel_rfl) ?_
 refine Cx.op rfl rfl (by decide) (fun _ => ok_move rfl (vl rfl)) ?_
 refine Cx.op rfl rfl (by decide) (fun _ => ok_move rfl (vl rfl)) ?_
 refine Cx.op rfl rfl (by decide) (fun _ => ok_move rfl (vl rfl)) ?_
 refine Cx.op rfl rfl (by decide) (fun _ => ok_move rfl (vl rfl)) ?_
 refine Cx.op rfl rfl (by decide) (fun _ => ok_move rfl (vl rfl)) ?_
 refine Cx.op rfl rfl (by decide) (fun _ => ok_move rfl (vl rfl)) ?_
 refine Cx.op rfl rfl (by decide) (fun _ => okp_indexSl rfl Tryz.underlying29 sz40 (vl rfl) (vl rfl) (by omega) (by omega)) ?_
 refine Cx.rd 0 rfl rfl rfl (by decide) (rd_loadA rfl agg40 sz40 (vl rfl) (cells_atG (f := rowFc) (fun _ => rfl) (by omega)) rfl) ?_
 refine Cx.op rfl rfl (by decide) (fun _ => ok_move rfl (vl rfl)) ?_
 refine Cx.op rfl rfl (by decide) (fun _ => ok_move rfl (vl rfl)) ?_
 refine Cx.op rfl rfl (by decide) (fun _ => okp_indexSl rfl Tryz.underlying29 sz40 (vl rfl) (vl rfl) (by omega) (by omega)) ?_
 refine Cx.rd 0 rfl rfl rfl (by decide) (rd_loadA rfl agg40 sz40 (vl rfl) (cells_atG (f := rowFc) (fun _ => rfl) (by omega)) rfl) ?_
 refine Cx.op rfl rfl (by decide) (fun _ => okp_indexSl rfl Tryz.underlying29 sz40 (vl rfl) (vl rfl) (by omega) (by omega)) ?_
 refine Cx.ef0 0 rfl rfl (ef_store rfl rfl (vl rfl) (VL.le (vl rfl) (agg_cellsP _)) sz40 rfl (by rw [cells_len (sz := 8) (fun _ => rfl)]; first | omega | (simp only [List.length_set]; omega)) (cells_setG (f := rowFc) (fun _ => rfl) (by first | omega | (simp only [List.length_set]; omega)))) ?_
 refine Cx.op rfl rfl (by decide) (fun _ => okp_indexSl rfl Tryz.underlying29 sz40 (vl rfl) (vl rfl) (by omega) (by omega)) ?_
 refine Cx.ef0 0 rfl rfl (ef_store rfl rfl (vl rfl) (VL.le (vl rfl) (agg_cellsP _)) sz40 rfl (by rw [cells_len (sz := 8) (fun _ => rfl)]; first | omega | (simp only [List.length_set]; omega)) (cells_setG (f := rowFc) (fun _ => rfl) (by first | omega | (simp only [List.length_set]; omega)))) ?_
 refine Cx.nil ⟨rfl, ?_⟩
 refine FinX.done (AllC.cons (AllC.cons (AllC.map _))) ?_
 refine Fin.go ?_
 refine Tr.weak [(0, _), (1, _), (2, _), (4, _)] ⟨⟨_, rfl, Pr.le_refl _⟩, ⟨_, rfl, Pr.le_refl _⟩, ⟨_, rfl, Pr.le_refl _⟩, ⟨_, rfl, Pr.le_refl _⟩, trivial⟩ ?_
 refine Tr.seq ?_
 refine Tr.reg0 ?_
 refine Ch.op rfl rfl (by decide) (ok_move rfl (vl rfl)) ?_
 first
  | (refine Ch.op rfl rfl (by decide) (ok_add rfl (vl rfl) (vl rfl) ?hin) ?_; case hin => unfold InI; omega)
  | refine Ch.op rfl rfl (by decide) (ok_int rfl (vl rfl) (vl rfl) rfl) ?_
 refine Ch.op rfl rfl (by decide) (ok_move rfl (vl rfl)) ?_
 first
  | (refine Ch.op rfl rfl (by decide) (ok_sub rfl (vl rfl) (vl rfl) ?hin) ?_; case hin => unfold InI; omega)
  | refine Ch.op rfl rfl (by decide) (ok_int rfl (vl rfl) (vl rfl) rfl) ?_
 refine Ch.op rfl rfl (by decide) (ok_assign rfl (vl rfl)) ?_
 refine Ch.op rfl rfl (by decide) (ok_assign rfl (vl rfl)) ?_
 refine Ch.nil ?_
 refine Fin.go ?_
 refine Tr.weak [(0, _), (1, _), (4, _), (12, _), (13, _)] ⟨⟨_, rfl, Pr.le_refl _⟩, ⟨_, rfl, Pr.le_refl _⟩, ⟨_, rfl, Pr.le_refl _⟩, ⟨_, rfl, Pr.le_refl _⟩, ⟨_, rfl, Pr.le_refl _⟩, trivial⟩ ?_
 refine Tr.cutk [0, 1, 4, 13] [(12, ex fun y : Int => fact (((a + 1) ≤ y ∧ y ≤ b) ∧ True ∧ y.toNat = Go.Sort.scanUp (pU c ((l.set a.toNat (l[pv.toNat]'hpv)).set pv.toNat (l[a.toNat]'hal)).toArray a) ((l.set a.toNat (l[pv.toNat]'hpv)).set pv.toNat (l[a.toNat]'hal)).toArray ((b - 1)).toNat ((a + 1)).toNat) (int y))] (True) ?_ (fun h1 => ?_)
 ·
  refine Tr.block ?_
  refine Tr.loopw [(0, _), (1, _), (4, _), (13, _)] ⟨⟨_, rfl, Pr.le_refl _⟩, ⟨_, rfl, Pr.le_refl _⟩, ⟨_, rfl, Pr.le_refl _⟩, ⟨_, rfl, Pr.le_refl _⟩, trivial⟩ (fun y : Int => [(12, int y)]) (fun y : Int => ((a + 1) ≤ y ∧ y ≤ b) ∧ Go.Sort.scanUp (pU c ((l.set a.toNat (l[pv.toNat]'hpv)).set pv.toNat (l[a.toNat]'hal)).toArray a) ((l.set a.toNat (l[pv.toNat]'hpv)).set pv.toNat (l[a.toNat]'hal)).toArray ((b - 1)).toNat (y).toNat = Go.Sort.scanUp (pU c ((l.set a.toNat (l[pv.toNat]'hpv)).set pv.toNat (l[a.toNat]'hal)).toArray a) ((l.set a.toNat (l[pv.toNat]'hpv)).set pv.toNat (l[a.toNat]'hal)).toArray ((b - 1)).toNat ((a + 1)).toNat) (fun y : Int => (b - y).toNat) (a + 1) (⟨⟨by omega, by omega⟩, rfl⟩) ⟨⟨_, rfl, Pr.le_refl _⟩, trivial⟩ ?_
  rintro y ⟨⟨hscAa, hscAb⟩, hscAc⟩
  refine Tr.seq ?_
  refine Tr.seq ?_
  refine Tr.reg1 mixed (by kernel_rfl) ?_
  refine Ch.op rfl rfl (by decide) (ok_move rfl (vl rfl)) ?_
  refine Ch.op rfl rfl (by decide) (ok_move rfl (vl rfl)) ?_
  refine Ch.op rfl rfl (by decide) (ok_int rfl (vl rfl) (vl rfl) rfl) ?_
  refine Ch.op rfl rfl (by decide) (ok_move rfl (vl rfl)) ?_
  refine Ch.cases 35 rfl (fun h2 => ?_) (fun h2 => ?_)
  ·
   have q2 := Nrm.nrm h2
   refine Ch.yes rfl rfl rfl h2 rfl (by decide) (ok_move rfl (vl rfl)) ?_
   refine Ch.yes rfl rfl rfl h2 rfl (by decide) (ok_move rfl (vl rfl)) ?_
   refine Ch.yes rfl rfl rfl h2 rfl (by decide) (ok_move rfl (vl rfl)) ?_
   refine Ch.yes rfl rfl rfl h2 rfl (by decide) (okp_indexSl rfl Tryz.underlying29 sz40 (vl rfl) (vl rfl) (by omega) (by omega)) ?_
   refine Ch.yes rfl rfl rfl h2 rfl (by decide) (ok_rd 0 rfl (rd_loadA rfl agg40 sz40 (vl rfl) (cells_atG (f := rowFc) (fun _ => rfl) (by omega)) rfl)) ?_
   refine Ch.yes rfl rfl rfl h2 rfl (by decide) (ok_move rfl (vl rfl)) ?_
   refine Ch.yes rfl rfl rfl h2 rfl (by decide) (ok_move rfl (vl rfl)) ?_
   refine Ch.yes rfl rfl rfl h2 rfl (by decide) (okp_indexSl rfl Tryz.underlying29 sz40 (vl rfl) (vl rfl) (by omega) (by omega)) ?_
   refine Ch.yes rfl rfl rfl h2 rfl (by decide) (ok_rd 0 rfl (rd_loadA rfl agg40 sz40 (vl rfl) (cells_atG (f := rowFc) (fun _ => rfl) (by omega)) rfl)) ?_
   refine Ch.yes rfl rfl rfl h2 rfl (by decide) (ok_callc (_, _) rfl (vl rfl) ⟨⟨_, rfl, Pr.le_refl _⟩, ⟨_, rfl, Pr.le_refl _⟩, trivial⟩) ?_
   refine Ch.yes rfl rfl rfl h2 rfl (by decide) (ok_int rfl (vl rfl) (vl rfl) rfl) ?_
   refine Ch.op rfl rfl (by decide) (ok_pick_t rfl (vl rfl) h2 (vl rfl)) ?_
   refine Ch.nil ?_
   refine Fin.go ?_
   refine Tr.weak [(0, _), (1, _), (4, _), (12, _), (13, _), (47, _)] ⟨⟨_, rfl, Pr.le_refl _⟩, ⟨_, rfl, Pr.le_refl _⟩, ⟨_, rfl, Pr.le_refl _⟩, ⟨_, rfl, Pr.le_refl _⟩, ⟨_, rfl, Pr.le_refl _⟩, ⟨_, rfl, Pr.le_refl _⟩, trivial⟩ ?_
   refine Tr.cond rfl (fun h3 => ?_) (fun h3 => ?_)
   ·
    have q3 := Nrm.nrm h3
    have := h3
    refine Tr.skip ?_
    refine Fin.go ?_
    refine Tr.block ?_
    refine Tr.reg0 ?_
    refine Ch.op rfl rfl (by decide) (ok_move rfl (vl rfl)) ?_
    first
     | (refine Ch.op rfl rfl (by decide) (ok_add rfl (vl rfl) (vl rfl) ?hin) ?_; case hin => unfold InI; omega)
     | refine Ch.op rfl rfl (by decide) (ok_int rfl (vl rfl) (vl rfl) rfl) ?_
    refine Ch.op rfl rfl (by decide) (ok_assign rfl (vl rfl)) ?_
    refine Ch.nil ?_
    refine Fin.block ?_
    exact Fin.fam_same (y + 1) ⟨⟨⟨by omega, by omega⟩, by rw [su_go (by omega) (by omega) (by omega) (pU_t (by omega) (by omega) (by assumption))]; exact hscAc⟩, by omega⟩ ⟨⟨_, rfl, Pr.le_refl _⟩, ⟨_, rfl, Pr.le_refl _⟩, ⟨_, rfl, Pr.le_refl _⟩, ⟨_, rfl, Pr.le_refl _⟩, ⟨_, rfl, Pr.le_refl _⟩, trivial⟩
   ·
    have q3 := Nrm.nrm h3
    have := h3
    refine Tr.exit ?_
    refine Fin.then_exit ?_
    refine Fin.then_exit ?_
    refine Fin.block_here ?_
    exact Fin.fam_same () trivial ⟨⟨_, rfl, ex_in _ (fact_in ⟨⟨by omega, by omega⟩, trivial, by rw [← hscAc]; first | exact (su_stopA (by omega) (by omega)).symm | exact (su_stopB (by omega) (pU_f (by omega) (by omega) (Int.not_lt.2 (by assumption)))).symm⟩ (Pr.le_refl _))⟩, ⟨_, rfl, Pr.le_refl _⟩, ⟨_, rfl, Pr.le_refl _⟩, ⟨_, rfl, Pr.le_refl _⟩, ⟨_, rfl, Pr.le_refl _⟩, trivial⟩
  ·
   have q2 := Nrm.nrm h2
   refine Ch.no rfl rfl rfl (ne_true h2) rfl (by decide) ?_
   refine Ch.no rfl rfl rfl (ne_true h2) rfl (by decide) ?_
   refine Ch.no rfl rfl rfl (ne_true h2) rfl (by decide) ?_
   refine Ch.no rfl rfl rfl (ne_true h2) rfl (by decide) ?_
   refine Ch.no rfl rfl rfl (ne_true h2) rfl (by decide) ?_
   refine Ch.no rfl rfl rfl (ne_true h2) rfl (by decide) ?_
   refine Ch.no rfl rfl rfl (ne_true h2) rfl (by decide) ?_
   refine Ch.no rfl rfl rfl (ne_true h2) rfl (by decide) ?_
   refine Ch.no rfl rfl rfl (ne_true h2) rfl (by decide) ?_
   refine Ch.no rfl rfl rfl (ne_true h2) rfl (by decide) ?_
   refine Ch.no rfl rfl rfl (ne_true h2) rfl (by decide) ?_
   refine Ch.op rfl rfl (by decide) (ok_pick_f rfl (vl rfl) h2 (vl rfl)) ?_
   refine Ch.nil ?_
   refine Fin.go ?_
   refine Tr.weak [(0, _), (1, _), (4, _), (12, _), (13, _), (47, _)] ⟨⟨_, rfl, Pr.le_refl _⟩, ⟨_, rfl, Pr.le_refl _⟩, ⟨_, rfl, Pr.le_refl _⟩, ⟨_, rfl, Pr.le_refl _⟩, ⟨_, rfl, Pr.le_refl _⟩, ⟨_, rfl, Pr.le_refl _⟩, trivial⟩ ?_
   refine Tr.cond rfl (fun h => nomatch h) (fun _ => ?_)
   refine Tr.exit ?_
   refine Fin.then_exit ?_
   refine Fin.then_exit ?_
   refine Fin.block_here ?_
   exact Fin.fam_same () trivial ⟨⟨_, rfl, ex_in _ (fact_in ⟨⟨by omega, by omega⟩, trivial, by rw [← hscAc]; first | exact (su_stopA (by omega) (by omega)).symm | exact (su_stopB (by omega) (pU_f (by omega) (by omega) (Int.not_lt.2 (by assumption)))).symm⟩ (Pr.le_refl _))⟩, ⟨_, rfl, Pr.le_refl _⟩, ⟨_, rfl, Pr.le_refl _⟩, ⟨_, rfl, Pr.le_refl _⟩, ⟨_, rfl, Pr.le_refl _⟩, trivial⟩
 ·
  refine Tr.ex 12 rfl (fun i1 => Tr.fact 12 rfl fun hci1 => ?_)
  obtain ⟨hci1a, hci1b, hci1c⟩ := hci1
  refine Tr.weak [(0, _), (1, _), (4, _), (12, _), (13, _)] ⟨⟨_, rfl, Pr.le_refl _⟩, ⟨_, rfl, Pr.le_refl _⟩, ⟨_, rfl, Pr.le_refl _⟩, ⟨_, rfl, Pr.le_refl _⟩, ⟨_, rfl, Pr.le_refl _⟩, trivial⟩ ?_
  refine Tr.cutk [0, 1, 4, 12] [(13, ex fun y : Int => fact ((a ≤ y ∧ y ≤ (b - 1)) ∧ True ∧ y.toNat = Go.Sort.scanDown (pD c ((l.set a.toNat (l[pv.toNat]'hpv)).set pv.toNat (l[a.toNat]'hal)).toArray a) ((l.set a.toNat (l[pv.toNat]'hpv)).set pv.toNat (l[a.toNat]'hal)).toArray (i1).toNat ((b - 1)).toNat) (int y))] (True) ?_ (fun h4 => ?_)
  ·
   refine Tr.block ?_
   refine Tr.loopw [(0, _), (1, _), (4, _), (12, _)] ⟨⟨_, rfl, Pr.le_refl _⟩, ⟨_, rfl, Pr.le_refl _⟩, ⟨_, rfl, Pr.le_refl _⟩, ⟨_, rfl, Pr.le_refl _⟩, trivial⟩ (fun y : Int => [(13, int y)]) (fun y : Int => (a ≤ y ∧ y ≤ (b - 1)) ∧ Go.Sort.scanDown (pD c ((l.set a.toNat (l[pv.toNat]'hpv)).set pv.toNat (l[a.toNat]'hal)).toArray a) ((l.set a.toNat (l[pv.toNat]'hpv)).set pv.toNat (l[a.toNat]'hal)).toArray (i1).toNat (y).toNat = Go.Sort.scanDown (pD c ((l.set a.toNat (l[pv.toNat]'hpv)).set pv.toNat (l[a.toNat]'hal)).toArray a) ((l.set a.toNat (l[pv.toNat]'hpv)).set pv.toNat (l[a.toNat]'hal)).toArray (i1).toNat ((b - 1)).toNat) (fun y : Int => (y - a).toNat) (b - 1) (⟨⟨by omega, by omega⟩, rfl⟩) ⟨⟨_, rfl, Pr.le_refl _⟩, trivial⟩ ?_
   rintro y ⟨⟨hscBa, hscBb⟩, hscBc⟩
   refine Tr.seq ?_
   refine Tr.seq ?_
   refine Tr.reg1 mixed (by kernel_rfl) ?_
   refine Ch.op rfl rfl (by decide) (ok_move rfl (vl rfl)) ?_
   refine Ch.op rfl rfl (by decide) (ok_move rfl (vl rfl)) ?_
   refine Ch.op rfl rfl (by decide) (ok_int rfl (vl rfl) (vl rfl) rfl) ?_
   refine Ch.op rfl rfl (by decide) (ok_move rfl (vl rfl)) ?_
   refine Ch.cases 53 rfl (fun h5 => ?_) (fun h5 => ?_)
   ·
    have q5 := Nrm.nrm h5
    refine Ch.yes rfl rfl rfl h5 rfl (by decide) (ok_move rfl (vl rfl)) ?_
    refine Ch.yes rfl rfl rfl h5 rfl (by decide) (ok_move rfl (vl rfl)) ?_
    refine Ch.yes rfl rfl rfl h5 rfl (by decide) (ok_move rfl (vl rfl)) ?_
    refine Ch.yes rfl rfl rfl h5 rfl (by decide) (okp_indexSl rfl Tryz.underlying29 sz40 (vl rfl) (vl rfl) (by omega) (by omega)) ?_
    refine Ch.yes rfl rfl rfl h5 rfl (by decide) (ok_rd 0 rfl (rd_loadA rfl agg40 sz40 (vl rfl) (cells_atG (f := rowFc) (fun _ => rfl) (by omega)) rfl)) ?_
    refine Ch.yes rfl rfl rfl h5 rfl (by decide) (ok_move rfl (vl rfl)) ?_
    refine Ch.yes rfl rfl rfl h5 rfl (by decide) (ok_move rfl (vl rfl)) ?_
    refine Ch.yes rfl rfl rfl h5 rfl (by decide) (okp_indexSl rfl Tryz.underlying29 sz40 (vl rfl) (vl rfl) (by omega) (by omega)) ?_
    refine Ch.yes rfl rfl rfl h5 rfl (by decide) (ok_rd 0 rfl (rd_loadA rfl agg40 sz40 (vl rfl) (cells_atG (f := rowFc) (fun _ => rfl) (by omega)) rfl)) ?_
    refine Ch.yes rfl rfl rfl h5 rfl (by decide) (ok_callc (_, _) rfl (vl rfl) ⟨⟨_, rfl, Pr.le_refl _⟩, ⟨_, rfl, Pr.le_refl _⟩, trivial⟩) ?_
    refine Ch.yes rfl rfl rfl h5 rfl (by decide) (ok_int rfl (vl rfl) (vl rfl) rfl) ?_
    refine Ch.yes rfl rfl rfl h5 rfl (by decide) (ok_not rfl (vl rfl)) ?_
    refine Ch.op rfl rfl (by decide) (ok_pick_t rfl (vl rfl) h5 (vl rfl)) ?_
    refine Ch.nil ?_
    refine Fin.go ?_
    refine Tr.weak [(0, _), (1, _), (4, _), (12, _), (13, _), (66, _)] ⟨⟨_, rfl, Pr.le_refl _⟩, ⟨_, rfl, Pr.le_refl _⟩, ⟨_, rfl, Pr.le_refl _⟩, ⟨_, rfl, Pr.le_refl _⟩, ⟨_, rfl, Pr.le_refl _⟩, ⟨_, rfl, Pr.le_refl _⟩, trivial⟩ ?_
    refine Tr.cond rfl (fun h6 => ?_) (fun h6 => ?_)
    ·
     have q6 := Nrm.nrm h6
     have := h6
     refine Tr.skip ?_
     refine Fin.go ?_
     refine Tr.block ?_
     refine Tr.reg0 ?_
     refine Ch.op rfl rfl (by decide) (ok_move rfl (vl rfl)) ?_
     first
      | (refine Ch.op rfl rfl (by decide) (ok_sub rfl (vl rfl) (vl rfl) ?hin) ?_; case hin => unfold InI; omega)
      | refine Ch.op rfl rfl (by decide) (ok_int rfl (vl rfl) (vl rfl) rfl) ?_
     refine Ch.op rfl rfl (by decide) (ok_assign rfl (vl rfl)) ?_
     refine Ch.nil ?_
     refine Fin.block ?_
     exact Fin.fam_same (y - 1) ⟨⟨⟨by omega, by omega⟩, by rw [sd_go (by omega) (by omega) (by omega) (pD_t (by omega) (by omega) (Int.not_lt.2 (by assumption)))]; exact hscBc⟩, by omega⟩ ⟨⟨_, rfl, Pr.le_refl _⟩, ⟨_, rfl, Pr.le_refl _⟩, ⟨_, rfl, Pr.le_refl _⟩, ⟨_, rfl, Pr.le_refl _⟩, ⟨_, rfl, Pr.le_refl _⟩, trivial⟩
    ·
     have q6 := Nrm.nrm h6
     have := h6
     refine Tr.exit ?_
     refine Fin.then_exit ?_
     refine Fin.then_exit ?_
     refine Fin.block_here ?_
     exact Fin.fam_same () trivial ⟨⟨_, rfl, ex_in _ (fact_in ⟨⟨by omega, by omega⟩, trivial, by rw [← hscBc]; first | exact (sd_stopA (by omega) (by omega)).symm | exact (sd_stopB (by omega) (pD_f (by omega) (by omega) (by assumption))).symm⟩ (Pr.le_refl _))⟩, ⟨_, rfl, Pr.le_refl _⟩, ⟨_, rfl, Pr.le_refl _⟩, ⟨_, rfl, Pr.le_refl _⟩, ⟨_, rfl, Pr.le_refl _⟩, trivial⟩
   ·
    have q5 := Nrm.nrm h5
    refine Ch.no rfl rfl rfl (ne_true h5) rfl (by decide) ?_
    refine Ch.no rfl rfl rfl (ne_true h5) rfl (by decide) ?_
    refine Ch.no rfl rfl rfl (ne_true h5) rfl (by decide) ?_
    refine Ch.no rfl rfl rfl (ne_true h5) rfl (by decide) ?_
    refine Ch.no rfl rfl rfl (ne_true h5) rfl (by decide) ?_
    refine Ch.no rfl rfl rfl (ne_true h5) rfl (by decide) ?_
    refine Ch.no rfl rfl rfl (ne_true h5) rfl (by decide) ?_
    refine Ch.no rfl rfl rfl (ne_true h5) rfl (by decide) ?_
    refine Ch.no rfl rfl rfl (ne_true h5) rfl (by decide) ?_
    refine Ch.no rfl rfl rfl (ne_true h5) rfl (by decide) ?_
    refine Ch.no rfl rfl rfl (ne_true h5) rfl (by decide) ?_
    refine Ch.no rfl rfl rfl (ne_true h5) rfl (by decide) ?_
    refine Ch.op rfl rfl (by decide) (ok_pick_f rfl (vl rfl) h5 (vl rfl)) ?_
    refine Ch.nil ?_
    refine Fin.go ?_
    refine Tr.weak [(0, _), (1, _), (4, _), (12, _), (13, _), (66, _)] ⟨⟨_, rfl, Pr.le_refl _⟩, ⟨_, rfl, Pr.le_refl _⟩, ⟨_, rfl, Pr.le_refl _⟩, ⟨_, rfl, Pr.le_refl _⟩, ⟨_, rfl, Pr.le_refl _⟩, ⟨_, rfl, Pr.le_refl _⟩, trivial⟩ ?_
    refine Tr.cond rfl (fun h => nomatch h) (fun _ => ?_)
    refine Tr.exit ?_
    refine Fin.then_exit ?_
    refine Fin.then_exit ?_
    refine Fin.block_here ?_
    exact Fin.fam_same () trivial ⟨⟨_, rfl, ex_in _ (fact_in ⟨⟨by omega, by omega⟩, trivial, by rw [← hscBc]; first | exact (sd_stopA (by omega) (by omega)).symm | exact (sd_stopB (by omega) (pD_f (by omega) (by omega) (by assumption))).symm⟩ (Pr.le_refl _))⟩, ⟨_, rfl, Pr.le_refl _⟩, ⟨_, rfl, Pr.le_refl _⟩, ⟨_, rfl, Pr.le_refl _⟩, ⟨_, rfl, Pr.le_refl _⟩, trivial⟩
  ·
   refine Tr.ex 13 rfl (fun j1 => Tr.fact 13 rfl fun hcj1 => ?_)
   obtain ⟨hcj1a, hcj1b, hcj1c⟩ := hcj1
   refine Tr.seq ?_
   refine Tr.seq ?_
   refine Tr.reg0 ?_
   refine Ch.op rfl rfl (by decide) (ok_move rfl (vl rfl)) ?_
   refine Ch.op rfl rfl (by decide) (ok_move rfl (vl rfl)) ?_
   refine Ch.op rfl rfl (by decide) (ok_int rfl (vl rfl) (vl rfl) rfl) ?_
   refine Ch.nil ?_
   refine Fin.go ?_
   refine Tr.cond rfl (fun h7 => ?_) (fun h7 => ?_)
   ·
    have q7 := Nrm.nrm h7
    refine Tr.seq ?_
    refine Tr.regX mixed [none, none, none, none, none, none, none, some (0, 0, false, 0), none, none, none, some (0, 0, false, 0), none, some (0, 0, true, 0), none, some (0, 0, true, 0)] (by kernel_rfl) ?_
    refine Cx.op rfl rfl (by decide) (fun _ => ok_move rfl (vl rfl)) ?_
    refine Cx.op rfl rfl (by decide) (fun _ => ok_move rfl (vl rfl)) ?_
    refine Cx.op rfl rfl (by decide) (fun _ => ok_move rfl (vl rfl)) ?_
    refine Cx.op rfl rfl (by decide) (fun _ => ok_move rfl (vl rfl)) ?_
    refine Cx.op rfl rfl (by decide) (fun _ => ok_move rfl (vl rfl)) ?_
    refine Cx.op rfl rfl (by decide) (fun _ => ok_move rfl (vl rfl)) ?_
    refine Cx.op rfl rfl (by decide) (fun _ => okp_indexSl rfl Tryz.underlying29 sz40 (vl rfl) (vl rfl) (by omega) (by omega)) ?_
    refine Cx.rd 0 rfl rfl rfl (by decide) (rd_loadA rfl agg40 sz40 (vl rfl) (cells_atG (f := rowFc) (fun _ => rfl) (by omega)) rfl) ?_
    refine Cx.op rfl rfl (by decide) (fun _ => ok_move rfl (vl rfl)) ?_
    refine Cx.op rfl rfl (by decide) (fun _ => ok_move rfl (vl rfl)) ?_
    refine Cx.op rfl rfl (by decide) (fun _ => okp_indexSl rfl Tryz.underlying29 sz40 (vl rfl) (vl rfl) (by omega) (by omega)) ?_
    refine Cx.rd 0 rfl rfl rfl (by decide) (rd_loadA rfl agg40 sz40 (vl rfl) (cells_atG (f := rowFc) (fun _ => rfl) (by omega)) rfl) ?_
    refine Cx.op rfl rfl (by decide) (fun _ => okp_indexSl rfl Tryz.underlying29 sz40 (vl rfl) (vl rfl) (by omega) (by omega)) ?_
    refine Cx.ef0 0 rfl rfl (ef_store rfl rfl (vl rfl) (VL.le (vl rfl) (agg_cellsP _)) sz40 rfl (by rw [cells_len (sz := 8) (fun _ => rfl)]; first | omega | (simp only [List.length_set]; omega)) (cells_setG (f := rowFc) (fun _ => rfl) (by first | omega | (simp only [List.length_set]; omega)))) ?_
    refine Cx.op rfl rfl (by decide) (fun _ => okp_indexSl rfl Tryz.underlying29 sz40 (vl rfl) (vl rfl) (by omega) (by omega)) ?_
    refine Cx.ef0 0 rfl rfl (ef_store rfl rfl (vl rfl) (VL.le (vl rfl) (agg_cellsP _)) sz40 rfl (by rw [cells_len (sz := 8) (fun _ => rfl)]; first | omega | (simp only [List.length_set]; omega)) (cells_setG (f := rowFc) (fun _ => rfl) (by first | omega | (simp only [List.length_set]; omega)))) ?_
    refine Cx.nil ⟨rfl, ?_⟩
    refine FinX.done (AllC.cons (AllC.cons (AllC.map _))) ?_
    refine Fin.go ?_
    refine Tr.weak [(13, _)] ⟨⟨_, rfl, Pr.le_refl _⟩, trivial⟩ ?_
    refine Tr.seq ?_
    refine Tr.reg0 ?_
    refine Ch.op rfl rfl (by decide) (ok_move rfl (vl rfl)) ?_
    refine Ch.op rfl rfl (by decide) (ok_assign rfl (vl rfl)) ?_
    refine Ch.op rfl rfl (by decide) (ok_assign rfl (vl rfl)) ?_
    refine Ch.nil ?_
    refine Fin.go ?_
    refine Tr.ret ?_
    refine Fin.then_ret ?_
    refine Fin.closeL (PartL c a b pv l) 0 rfl (⟨by simp only [List.length_set], (pa_start h0 hab hal hpv (part_stop hci1c hcj1c (by omega) (by omega)) (by omega) (by omega)).2⟩) ?_
    refine Fin.retY2 [] rfl (RVal.tmp rfl (Pr.le_refl _)) (RVal.tmp rfl (Pr.le_refl _)) ?_
    · exact ex_in true (fact_in trivial (Pr.le_of_eq (by rw [(pa_start h0 hab hal hpv (part_stop hci1c hcj1c (by omega) (by omega)) (by omega) (by omega)).1, Int.toNat_of_nonneg (by omega)])))
   ·
    have q7 := Nrm.nrm h7
    refine Tr.skip ?_
    refine Fin.go ?_
    refine Tr.seq ?_
    refine Tr.regX mixed [none, none, none, none, none, none, none, some (0, 0, false, 0), none, none, none, some (0, 0, false, 0), none, some (0, 0, true, 0), none, some (0, 0, true, 0)] (by kernel_rfl) ?_
    refine Cx.op rfl rfl (by decide) (fun _ => ok_move rfl (vl rfl)) ?_
    refine Cx.op rfl rfl (by decide) (fun _ => ok_move rfl (vl rfl)) ?_
    refine Cx.op rfl rfl (by decide) (fun _ => ok_move rfl (vl rfl)) ?_
    refine Cx.op rfl rfl (by decide) (fun _ => ok_move rfl (vl rfl)) ?_
    refine Cx.op rfl rfl (by decide) (fun _ => ok_move rfl (vl rfl)) ?_
    refine Cx.op rfl rfl (by decide) (fun _ => ok_move rfl (vl rfl)) ?_
    refine Cx.op rfl rfl (by decide) (fun _ => okp_indexSl rfl Tryz.underlying29 sz40 (vl rfl) (vl rfl) (by omega) (by omega)) ?_
    refine Cx.rd 0 rfl rfl rfl (by decide) (rd_loadA rfl agg40 sz40 (vl rfl) (cells_atG (f := rowFc) (fun _ => rfl) (by omega)) rfl) ?_
    refine Cx.op rfl rfl (by decide) (fun _ => ok_move rfl (vl rfl)) ?_
    refine Cx.op rfl rfl (by decide) (fun _ => ok_move rfl (vl rfl)) ?_
    refine Cx.op rfl rfl (by decide) (fun _ => okp_indexSl rfl Tryz.underlying29 sz40 (vl rfl) (vl rfl) (by omega) (by omega)) ?_
    refine Cx.rd 0 rfl rfl rfl (by decide) (rd_loadA rfl agg40 sz40 (vl rfl) (cells_atG (f := rowFc) (fun _ => rfl) (by omega)) rfl) ?_
    refine Cx.op rfl rfl (by decide) (fun _ => okp_indexSl rfl Tryz.underlying29 sz40 (vl rfl) (vl rfl) (by omega) (by omega)) ?_
    refine Cx.ef0 0 rfl rfl (ef_store rfl rfl (vl rfl) (VL.le (vl rfl) (agg_cellsP _)) sz40 rfl (by rw [cells_len (sz := 8) (fun _ => rfl)]; first | omega | (simp only [List.length_set]; omega)) (cells_setG (f := rowFc) (fun _ => rfl) (by first | omega | (simp only [List.length_set]; omega)))) ?_
    refine Cx.op rfl rfl (by decide) (fun _ => okp_indexSl rfl Tryz.underlying29 sz40 (vl rfl) (vl rfl) (by omega) (by omega)) ?_
    refine Cx.ef0 0 rfl rfl (ef_store rfl rfl (vl rfl) (VL.le (vl rfl) (agg_cellsP _)) sz40 rfl (by rw [cells_len (sz := 8) (fun _ => rfl)]; first | omega | (simp only [List.length_set]; omega)) (cells_setG (f := rowFc) (fun _ => rfl) (by first | omega | (simp only [List.length_set]; omega)))) ?_
    refine Cx.nil ⟨rfl, ?_⟩
    refine FinX.done (AllC.cons (AllC.cons (AllC.map _))) ?_
    refine Fin.go ?_
    refine Tr.weak [(0, _), (1, _), (4, _), (12, _), (13, _)] ⟨⟨_, rfl, Pr.le_refl _⟩, ⟨_, rfl, Pr.le_refl _⟩, ⟨_, rfl, Pr.le_refl _⟩, ⟨_, rfl, Pr.le_refl _⟩, ⟨_, rfl, Pr.le_refl _⟩, trivial⟩ ?_
    refine Tr.seq ?_
    refine Tr.reg0 ?_
    refine Ch.op rfl rfl (by decide) (ok_move rfl (vl rfl)) ?_
    first
     | (refine Ch.op rfl rfl (by decide) (ok_add rfl (vl rfl) (vl rfl) ?hin) ?_; case hin => unfold InI; omega)
     | refine Ch.op rfl rfl (by decide) (ok_int rfl (vl rfl) (vl rfl) rfl) ?_
    refine Ch.op rfl rfl (by decide) (ok_assign rfl (vl rfl)) ?_
    refine Ch.nil ?_
    refine Fin.go ?_
    refine Tr.seq ?_
    refine Tr.reg0 ?_
    refine Ch.op rfl rfl (by decide) (ok_move rfl (vl rfl)) ?_
    first
     | (refine Ch.op rfl rfl (by decide) (ok_sub rfl (vl rfl) (vl rfl) ?hin) ?_; case hin => unfold InI; omega)
     | refine Ch.op rfl rfl (by decide) (ok_int rfl (vl rfl) (vl rfl) rfl) ?_
    refine Ch.op rfl rfl (by decide) (ok_assign rfl (vl rfl)) ?_
    refine Ch.nil ?_
    refine Fin.go ?_
    refine Tr.seq ?_
    refine Tr.block ?_
    refine Tr.loopD3V0 [(0, _), (1, _), (4, _)] ⟨⟨_, rfl, Pr.le_refl _⟩, ⟨_, rfl, Pr.le_refl _⟩, ⟨_, rfl, Pr.le_refl _⟩, trivial⟩ (fun (i : Int) (j : Int) (st : List Fct) => [(12, int i), (13, int j)]) (fun (i : Int) (j : Int) (st : List Fct) => Hp M0 w0 S (cellsRes true b0 40 ((st.map rowFc).flatten ++ sp.map is) :: extRes M1 w1 :: rs)) (fun (i : Int) (j : Int) (st : List Fct) => ((a < i ∧ i ≤ b) ∧ a ≤ j ∧ j < b) ∧ st.length = len ∧ PLp c a i j st.toArray = PLp c a (a + 1) (b - 1) ((l.set a.toNat (l[pv.toNat]'hpv)).set pv.toNat (l[a.toNat]'hal)).toArray) (fun (i : Int) (j : Int) (st : List Fct) => (j - i + 2).toNat) (i1 + 1) (j1 - 1) (_)  (⟨⟨⟨by omega, by omega⟩, by omega, by omega⟩, by simp only [List.length_set]; exact hln, part_go hci1c hcj1c (by omega) (by omega) (by omega) (by omega)⟩) ⟨⟨_, rfl, Pr.le_refl _⟩, ⟨_, rfl, Pr.le_refl _⟩, trivial⟩ (fun _ _ h => h) ?_
    rintro i j st  ⟨⟨⟨hi1, hi2⟩, hj1, hj2⟩, hsl, hso⟩
    refine Tr.block ?_
    refine Tr.weak [(0, _), (1, _), (4, _), (12, _), (13, _)] ⟨⟨_, rfl, Pr.le_refl _⟩, ⟨_, rfl, Pr.le_refl _⟩, ⟨_, rfl, Pr.le_refl _⟩, ⟨_, rfl, Pr.le_refl _⟩, ⟨_, rfl, Pr.le_refl _⟩, trivial⟩ ?_
    refine Tr.cutk [0, 1, 4, 13] [(12, ex fun y : Int => fact ((i ≤ y ∧ y ≤ b) ∧ True ∧ y.toNat = Go.Sort.scanUp (pU c st.toArray a) st.toArray (j).toNat (i).toNat) (int y))] (True) ?_ (fun h8 => ?_)
    ·
     refine Tr.block ?_
     refine Tr.loopw [(0, _), (1, _), (4, _), (13, _)] ⟨⟨_, rfl, Pr.le_refl _⟩, ⟨_, rfl, Pr.le_refl _⟩, ⟨_, rfl, Pr.le_refl _⟩, ⟨_, rfl, Pr.le_refl _⟩, trivial⟩ (fun y : Int => [(12, int y)]) (fun y : Int => (i ≤ y ∧ y ≤ b) ∧ Go.Sort.scanUp (pU c st.toArray a) st.toArray (j).toNat (y).toNat = Go.Sort.scanUp (pU c st.toArray a) st.toArray (j).toNat (i).toNat) (fun y : Int => (b - y).toNat) i (⟨⟨by omega, by omega⟩, rfl⟩) ⟨⟨_, rfl, Pr.le_refl _⟩, trivial⟩ ?_
     rintro y ⟨⟨hscAa, hscAb⟩, hscAc⟩
     refine Tr.seq ?_
     refine Tr.seq ?_
     refine Tr.reg1 mixed (by kernel_rfl) ?_
     refine Ch.op rfl rfl (by decide) (ok_move rfl (vl rfl)) ?_
     refine Ch.op rfl rfl (by decide) (ok_move rfl (vl rfl)) ?_
     refine Ch.op rfl rfl (by decide) (ok_int rfl (vl rfl) (vl rfl) rfl) ?_
     refine Ch.op rfl rfl (by decide) (ok_move rfl (vl rfl)) ?_
     refine Ch.cases 108 rfl (fun h9 => ?_) (fun h9 => ?_)
     ·
      have q9 := Nrm.nrm h9
      refine Ch.yes rfl rfl rfl h9 rfl (by decide) (ok_move rfl (vl rfl)) ?_
      refine Ch.yes rfl rfl rfl h9 rfl (by decide) (ok_move rfl (vl rfl)) ?_
      refine Ch.yes rfl rfl rfl h9 rfl (by decide) (ok_move rfl (vl rfl)) ?_
      refine Ch.yes rfl rfl rfl h9 rfl (by decide) (okp_indexSl rfl Tryz.underlying29 sz40 (vl rfl) (vl rfl) (by omega) (by omega)) ?_
      refine Ch.yes rfl rfl rfl h9 rfl (by decide) (ok_rd 0 rfl (rd_loadA rfl agg40 sz40 (vl rfl) (cells_atG (f := rowFc) (fun _ => rfl) (by omega)) rfl)) ?_
      refine Ch.yes rfl rfl rfl h9 rfl (by decide) (ok_move rfl (vl rfl)) ?_
      refine Ch.yes rfl rfl rfl h9 rfl (by decide) (ok_move rfl (vl rfl)) ?_
      refine Ch.yes rfl rfl rfl h9 rfl (by decide) (okp_indexSl rfl Tryz.underlying29 sz40 (vl rfl) (vl rfl) (by omega) (by omega)) ?_
      refine Ch.yes rfl rfl rfl h9 rfl (by decide) (ok_rd 0 rfl (rd_loadA rfl agg40 sz40 (vl rfl) (cells_atG (f := rowFc) (fun _ => rfl) (by omega)) rfl)) ?_
      refine Ch.yes rfl rfl rfl h9 rfl (by decide) (ok_callc (_, _) rfl (vl rfl) ⟨⟨_, rfl, Pr.le_refl _⟩, ⟨_, rfl, Pr.le_refl _⟩, trivial⟩) ?_
      refine Ch.yes rfl rfl rfl h9 rfl (by decide) (ok_int rfl (vl rfl) (vl rfl) rfl) ?_
      refine Ch.op rfl rfl (by decide) (ok_pick_t rfl (vl rfl) h9 (vl rfl)) ?_
      refine Ch.nil ?_
      refine Fin.go ?_
      refine Tr.weak [(0, _), (1, _), (4, _), (12, _), (13, _), (120, _)] ⟨⟨_, rfl, Pr.le_refl _⟩, ⟨_, rfl, Pr.le_refl _⟩, ⟨_, rfl, Pr.le_refl _⟩, ⟨_, rfl, Pr.le_refl _⟩, ⟨_, rfl, Pr.le_refl _⟩, ⟨_, rfl, Pr.le_refl _⟩, trivial⟩ ?_
      refine Tr.cond rfl (fun h10 => ?_) (fun h10 => ?_)
      ·
       have q10 := Nrm.nrm h10
       have := h10
       refine Tr.skip ?_
       refine Fin.go ?_
       refine Tr.block ?_
       refine Tr.reg0 ?_
       refine Ch.op rfl rfl (by decide) (ok_move rfl (vl rfl)) ?_
       first
        | (refine Ch.op rfl rfl (by decide) (ok_add rfl (vl rfl) (vl rfl) ?hin) ?_; case hin => unfold InI; omega)
        | refine Ch.op rfl rfl (by decide) (ok_int rfl (vl rfl) (vl rfl) rfl) ?_
       refine Ch.op rfl rfl (by decide) (ok_assign rfl (vl rfl)) ?_
       refine Ch.nil ?_
       refine Fin.block ?_
       exact Fin.fam_same (y + 1) ⟨⟨⟨by omega, by omega⟩, by rw [su_go (by omega) (by omega) (by omega) (pU_t (by omega) (by omega) (by assumption))]; exact hscAc⟩, by omega⟩ ⟨⟨_, rfl, Pr.le_refl _⟩, ⟨_, rfl, Pr.le_refl _⟩, ⟨_, rfl, Pr.le_refl _⟩, ⟨_, rfl, Pr.le_refl _⟩, ⟨_, rfl, Pr.le_refl _⟩, trivial⟩
      ·
       have q10 := Nrm.nrm h10
       have := h10
       refine Tr.exit ?_
       refine Fin.then_exit ?_
       refine Fin.then_exit ?_
       refine Fin.block_here ?_
       exact Fin.fam_same () trivial ⟨⟨_, rfl, ex_in _ (fact_in ⟨⟨by omega, by omega⟩, trivial, by rw [← hscAc]; first | exact (su_stopA (by omega) (by omega)).symm | exact (su_stopB (by omega) (pU_f (by omega) (by omega) (Int.not_lt.2 (by assumption)))).symm⟩ (Pr.le_refl _))⟩, ⟨_, rfl, Pr.le_refl _⟩, ⟨_, rfl, Pr.le_refl _⟩, ⟨_, rfl, Pr.le_refl _⟩, ⟨_, rfl, Pr.le_refl _⟩, trivial⟩
     ·
      have q9 := Nrm.nrm h9
      refine Ch.no rfl rfl rfl (ne_true h9) rfl (by decide) ?_
      refine Ch.no rfl rfl rfl (ne_true h9) rfl (by decide) ?_
      refine Ch.no rfl rfl rfl (ne_true h9) rfl (by decide) ?_
      refine Ch.no rfl rfl rfl (ne_true h9) rfl (by decide) ?_
      refine Ch.no rfl rfl rfl (ne_true h9) rfl (by decide) ?_
      refine Ch.no rfl rfl rfl (ne_true h9) rfl (by decide) ?_
      refine Ch.no rfl rfl rfl (ne_true h9) rfl (by decide) ?_
      refine Ch.no rfl rfl rfl (ne_true h9) rfl (by decide) ?_
      refine Ch.no rfl rfl rfl (ne_true h9) rfl (by decide) ?_
      refine Ch.no rfl rfl rfl (ne_true h9) rfl (by decide) ?_
      refine Ch.no rfl rfl rfl (ne_true h9) rfl (by decide) ?_
      refine Ch.op rfl rfl (by decide) (ok_pick_f rfl (vl rfl) h9 (vl rfl)) ?_
      refine Ch.nil ?_
      refine Fin.go ?_
      refine Tr.weak [(0, _), (1, _), (4, _), (12, _), (13, _), (120, _)] ⟨⟨_, rfl, Pr.le_refl _⟩, ⟨_, rfl, Pr.le_refl _⟩, ⟨_, rfl, Pr.le_refl _⟩, ⟨_, rfl, Pr.le_refl _⟩, ⟨_, rfl, Pr.le_refl _⟩, ⟨_, rfl, Pr.le_refl _⟩, trivial⟩ ?_
      refine Tr.cond rfl (fun h => nomatch h) (fun _ => ?_)
      refine Tr.exit ?_
      refine Fin.then_exit ?_
      refine Fin.then_exit ?_
      refine Fin.block_here ?_
      exact Fin.fam_same () trivial ⟨⟨_, rfl, ex_in _ (fact_in ⟨⟨by omega, by omega⟩, trivial, by rw [← hscAc]; first | exact (su_stopA (by omega) (by omega)).symm | exact (su_stopB (by omega) (pU_f (by omega) (by omega) (Int.not_lt.2 (by assumption)))).symm⟩ (Pr.le_refl _))⟩, ⟨_, rfl, Pr.le_refl _⟩, ⟨_, rfl, Pr.le_refl _⟩, ⟨_, rfl, Pr.le_refl _⟩, ⟨_, rfl, Pr.le_refl _⟩, trivial⟩
    ·
     refine Tr.ex 12 rfl (fun i2 => Tr.fact 12 rfl fun hci2 => ?_)
     obtain ⟨hci2a, hci2b, hci2c⟩ := hci2
     refine Tr.weak [(0, _), (1, _), (4, _), (12, _), (13, _)] ⟨⟨_, rfl, Pr.le_refl _⟩, ⟨_, rfl, Pr.le_refl _⟩, ⟨_, rfl, Pr.le_refl _⟩, ⟨_, rfl, Pr.le_refl _⟩, ⟨_, rfl, Pr.le_refl _⟩, trivial⟩ ?_
     refine Tr.cutk [0, 1, 4, 12] [(13, ex fun y : Int => fact ((a ≤ y ∧ y ≤ j) ∧ True ∧ y.toNat = Go.Sort.scanDown (pD c st.toArray a) st.toArray (i2).toNat (j).toNat) (int y))] (True) ?_ (fun h11 => ?_)
     ·
      refine Tr.block ?_
      refine Tr.loopw [(0, _), (1, _), (4, _), (12, _)] ⟨⟨_, rfl, Pr.le_refl _⟩, ⟨_, rfl, Pr.le_refl _⟩, ⟨_, rfl, Pr.le_refl _⟩, ⟨_, rfl, Pr.le_refl _⟩, trivial⟩ (fun y : Int => [(13, int y)]) (fun y : Int => (a ≤ y ∧ y ≤ j) ∧ Go.Sort.scanDown (pD c st.toArray a) st.toArray (i2).toNat (y).toNat = Go.Sort.scanDown (pD c st.toArray a) st.toArray (i2).toNat (j).toNat) (fun y : Int => (y - a).toNat) j (⟨⟨by omega, by omega⟩, rfl⟩) ⟨⟨_, rfl, Pr.le_refl _⟩, trivial⟩ ?_
      rintro y ⟨⟨hscBa, hscBb⟩, hscBc⟩
      refine Tr.seq ?_
      refine Tr.seq ?_
      refine Tr.reg1 mixed (by kernel_rfl) ?_
      refine Ch.op rfl rfl (by decide) (ok_move rfl (vl rfl)) ?_
      refine Ch.op rfl rfl (by decide) (ok_move rfl (vl rfl)) ?_
      refine Ch.op rfl rfl (by decide) (ok_int rfl (vl rfl) (vl rfl) rfl) ?_
      refine Ch.op rfl rfl (by decide) (ok_move rfl (vl rfl)) ?_
      refine Ch.cases 126 rfl (fun h12 => ?_) (fun h12 => ?_)
      ·
       have q12 := Nrm.nrm h12
       refine Ch.yes rfl rfl rfl h12 rfl (by decide) (ok_move rfl (vl rfl)) ?_
       refine Ch.yes rfl rfl rfl h12 rfl (by decide) (ok_move rfl (vl rfl)) ?_
       refine Ch.yes rfl rfl rfl h12 rfl (by decide) (ok_move rfl (vl rfl)) ?_
       refine Ch.yes rfl rfl rfl h12 rfl (by decide) (okp_indexSl rfl Tryz.underlying29 sz40 (vl rfl) (vl rfl) (by omega) (by omega)) ?_
       refine Ch.yes rfl rfl rfl h12 rfl (by decide) (ok_rd 0 rfl (rd_loadA rfl agg40 sz40 (vl rfl) (cells_atG (f := rowFc) (fun _ => rfl) (by omega)) rfl)) ?_
       refine Ch.yes rfl rfl rfl h12 rfl (by decide) (ok_move rfl (vl rfl)) ?_
       refine Ch.yes rfl rfl rfl h12 rfl (by decide) (ok_move rfl (vl rfl)) ?_
       refine Ch.yes rfl rfl rfl h12 rfl (by decide) (okp_indexSl rfl Tryz.underlying29 sz40 (vl rfl) (vl rfl) (by omega) (by omega)) ?_
       refine Ch.yes rfl rfl rfl h12 rfl (by decide) (ok_rd 0 rfl (rd_loadA rfl agg40 sz40 (vl rfl) (cells_atG (f := rowFc) (fun _ => rfl) (by omega)) rfl)) ?_
       refine Ch.yes rfl rfl rfl h12 rfl (by decide) (ok_callc (_, _) rfl (vl rfl) ⟨⟨_, rfl, Pr.le_refl _⟩, ⟨_, rfl, Pr.le_refl _⟩, trivial⟩) ?_
       refine Ch.yes rfl rfl rfl h12 rfl (by decide) (ok_int rfl (vl rfl) (vl rfl) rfl) ?_
       refine Ch.yes rfl rfl rfl h12 rfl (by decide) (ok_not rfl (vl rfl)) ?_
       refine Ch.op rfl rfl (by decide) (ok_pick_t rfl (vl rfl) h12 (vl rfl)) ?_
       refine Ch.nil ?_
       refine Fin.go ?_
       refine Tr.weak [(0, _), (1, _), (4, _), (12, _), (13, _), (139, _)] ⟨⟨_, rfl, Pr.le_refl _⟩, ⟨_, rfl, Pr.le_refl _⟩, ⟨_, rfl, Pr.le_refl _⟩, ⟨_, rfl, Pr.le_refl _⟩, ⟨_, rfl, Pr.le_refl _⟩, ⟨_, rfl, Pr.le_refl _⟩, trivial⟩ ?_
       refine Tr.cond rfl (fun h13 => ?_) (fun h13 => ?_)
       ·
        have q13 := Nrm.nrm h13
        have := h13
        refine Tr.skip ?_
        refine Fin.go ?_
        refine Tr.block ?_
        refine Tr.reg0 ?_
        refine Ch.op rfl rfl (by decide) (ok_move rfl (vl rfl)) ?_
        first
         | (refine Ch.op rfl rfl (by decide) (ok_sub rfl (vl rfl) (vl rfl) ?hin) ?_; case hin => unfold InI; omega)
         | refine Ch.op rfl rfl (by decide) (ok_int rfl (vl rfl) (vl rfl) rfl) ?_
        refine Ch.op rfl rfl (by decide) (ok_assign rfl (vl rfl)) ?_
        refine Ch.nil ?_
        refine Fin.block ?_
        exact Fin.fam_same (y - 1) ⟨⟨⟨by omega, by omega⟩, by rw [sd_go (by omega) (by omega) (by omega) (pD_t (by omega) (by omega) (Int.not_lt.2 (by assumption)))]; exact hscBc⟩, by omega⟩ ⟨⟨_, rfl, Pr.le_refl _⟩, ⟨_, rfl, Pr.le_refl _⟩, ⟨_, rfl, Pr.le_refl _⟩, ⟨_, rfl, Pr.le_refl _⟩, ⟨_, rfl, Pr.le_refl _⟩, trivial⟩
       ·
        have q13 := Nrm.nrm h13
        have := h13
        refine Tr.exit ?_
        refine Fin.then_exit ?_
        refine Fin.then_exit ?_
        refine Fin.block_here ?_
        exact Fin.fam_same () trivial ⟨⟨_, rfl, ex_in _ (fact_in ⟨⟨by omega, by omega⟩, trivial, by rw [← hscBc]; first | exact (sd_stopA (by omega) (by omega)).symm | exact (sd_stopB (by omega) (pD_f (by omega) (by omega) (by assumption))).symm⟩ (Pr.le_refl _))⟩, ⟨_, rfl, Pr.le_refl _⟩, ⟨_, rfl, Pr.le_refl _⟩, ⟨_, rfl, Pr.le_refl _⟩, ⟨_, rfl, Pr.le_refl _⟩, trivial⟩
      ·
       have q12 := Nrm.nrm h12
       refine Ch.no rfl rfl rfl (ne_true h12) rfl (by decide) ?_
       refine Ch.no rfl rfl rfl (ne_true h12) rfl (by decide) ?_
       refine Ch.no rfl rfl rfl (ne_true h12) rfl (by decide) ?_
       refine Ch.no rfl rfl rfl (ne_true h12) rfl (by decide) ?_
       refine Ch.no rfl rfl rfl (ne_true h12) rfl (by decide) ?_
       refine Ch.no rfl rfl rfl (ne_true h12) rfl (by decide) ?_
       refine Ch.no rfl rfl rfl (ne_true h12) rfl (by decide) ?_
       refine Ch.no rfl rfl rfl (ne_true h12) rfl (by decide) ?_
       refine Ch.no rfl rfl rfl (ne_true h12) rfl (by decide) ?_
       refine Ch.no rfl rfl rfl (ne_true h12) rfl (by decide) ?_
       refine Ch.no rfl rfl rfl (ne_true h12) rfl (by decide) ?_
       refine Ch.no rfl rfl rfl (ne_true h12) rfl (by decide) ?_
       refine Ch.op rfl rfl (by decide) (ok_pick_f rfl (vl rfl) h12 (vl rfl)) ?_
       refine Ch.nil ?_
       refine Fin.go ?_
       refine Tr.weak [(0, _), (1, _), (4, _), (12, _), (13, _), (139, _)] ⟨⟨_, rfl, Pr.le_refl _⟩, ⟨_, rfl, Pr.le_refl _⟩, ⟨_, rfl, Pr.le_refl _⟩, ⟨_, rfl, Pr.le_refl _⟩, ⟨_, rfl, Pr.le_refl _⟩, ⟨_, rfl, Pr.le_refl _⟩, trivial⟩ ?_
       refine Tr.cond rfl (fun h => nomatch h) (fun _ => ?_)
       refine Tr.exit ?_
       refine Fin.then_exit ?_
       refine Fin.then_exit ?_
       refine Fin.block_here ?_
       exact Fin.fam_same () trivial ⟨⟨_, rfl, ex_in _ (fact_in ⟨⟨by omega, by omega⟩, trivial, by rw [← hscBc]; first | exact (sd_stopA (by omega) (by omega)).symm | exact (sd_stopB (by omega) (pD_f (by omega) (by omega) (by assumption))).symm⟩ (Pr.le_refl _))⟩, ⟨_, rfl, Pr.le_refl _⟩, ⟨_, rfl, Pr.le_refl _⟩, ⟨_, rfl, Pr.le_refl _⟩, ⟨_, rfl, Pr.le_refl _⟩, trivial⟩
     ·
      refine Tr.ex 13 rfl (fun j2 => Tr.fact 13 rfl fun hcj2 => ?_)
      obtain ⟨hcj2a, hcj2b, hcj2c⟩ := hcj2
      refine Tr.seq ?_
      refine Tr.seq ?_
      refine Tr.reg0 ?_
      refine Ch.op rfl rfl (by decide) (ok_move rfl (vl rfl)) ?_
      refine Ch.op rfl rfl (by decide) (ok_move rfl (vl rfl)) ?_
      refine Ch.op rfl rfl (by decide) (ok_int rfl (vl rfl) (vl rfl) rfl) ?_
      refine Ch.nil ?_
      refine Fin.go ?_
      refine Tr.cond rfl (fun h14 => ?_) (fun h14 => ?_)
      ·
       have q14 := Nrm.nrm h14
       refine Tr.exit ?_
       refine Fin.then_exit ?_
       refine Fin.block_on rfl ?_
       refine Fin.then_exit ?_
       refine Fin.block_here ?_
       refine Fin.go ?_
       refine Tr.seq ?_
       refine Tr.regX mixed [none, none, none, none, none, none, none, some (0, 0, false, 0), none, none, none, some (0, 0, false, 0), none, some (0, 0, true, 0), none, some (0, 0, true, 0)] (by kernel_rfl) ?_
       refine Cx.op rfl rfl (by decide) (fun _ => ok_move rfl (vl rfl)) ?_
       refine Cx.op rfl rfl (by decide) (fun _ => ok_move rfl (vl rfl)) ?_
       refine Cx.op rfl rfl (by decide) (fun _ => ok_move rfl (vl rfl)) ?_
       refine Cx.op rfl rfl (by decide) (fun _ => ok_move rfl (vl rfl)) ?_
       refine Cx.op rfl rfl (by decide) (fun _ => ok_move rfl (vl rfl)) ?_
       refine Cx.op rfl rfl (by decide) (fun _ => ok_move rfl (vl rfl)) ?_
       refine Cx.op rfl rfl (by decide) (fun _ => okp_indexSl rfl Tryz.underlying29 sz40 (vl rfl) (vl rfl) (by omega) (by omega)) ?_
       refine Cx.rd 0 rfl rfl rfl (by decide) (rd_loadA rfl agg40 sz40 (vl rfl) (cells_atG (f := rowFc) (fun _ => rfl) (by omega)) rfl) ?_
       refine Cx.op rfl rfl (by decide) (fun _ => ok_move rfl (vl rfl)) ?_
       refine Cx.op rfl rfl (by decide) (fun _ => ok_move rfl (vl rfl)) ?_
       refine Cx.op rfl rfl (by decide) (fun _ => okp_indexSl rfl Tryz.underlying29 sz40 (vl rfl) (vl rfl) (by omega) (by omega)) ?_
       refine Cx.rd 0 rfl rfl rfl (by decide) (rd_loadA rfl agg40 sz40 (vl rfl) (cells_atG (f := rowFc) (fun _ => rfl) (by omega)) rfl) ?_
       refine Cx.op rfl rfl (by decide) (fun _ => okp_indexSl rfl Tryz.underlying29 sz40 (vl rfl) (vl rfl) (by omega) (by omega)) ?_
       refine Cx.ef0 0 rfl rfl (ef_store rfl rfl (vl rfl) (VL.le (vl rfl) (agg_cellsP _)) sz40 rfl (by rw [cells_len (sz := 8) (fun _ => rfl)]; first | omega | (simp only [List.length_set]; omega)) (cells_setG (f := rowFc) (fun _ => rfl) (by first | omega | (simp only [List.length_set]; omega)))) ?_
       refine Cx.op rfl rfl (by decide) (fun _ => okp_indexSl rfl Tryz.underlying29 sz40 (vl rfl) (vl rfl) (by omega) (by omega)) ?_
       refine Cx.ef0 0 rfl rfl (ef_store rfl rfl (vl rfl) (VL.le (vl rfl) (agg_cellsP _)) sz40 rfl (by rw [cells_len (sz := 8) (fun _ => rfl)]; first | omega | (simp only [List.length_set]; omega)) (cells_setG (f := rowFc) (fun _ => rfl) (by first | omega | (simp only [List.length_set]; omega)))) ?_
       refine Cx.nil ⟨rfl, ?_⟩
       refine FinX.done (AllC.cons (AllC.cons (AllC.map _))) ?_
       refine Fin.go ?_
       refine Tr.weak [(13, _)] ⟨⟨_, rfl, Pr.le_refl _⟩, trivial⟩ ?_
       refine Tr.seq ?_
       refine Tr.reg0 ?_
       refine Ch.op rfl rfl (by decide) (ok_move rfl (vl rfl)) ?_
       refine Ch.op rfl rfl (by decide) (ok_assign rfl (vl rfl)) ?_
       refine Ch.op rfl rfl (by decide) (ok_assign rfl (vl rfl)) ?_
       refine Ch.nil ?_
       refine Fin.go ?_
       refine Tr.ret ?_
       refine Fin.closeL (PartL c a b pv l) 0 rfl (⟨by simp only [List.length_set]; omega, (pa_start h0 hab hal hpv (hso.symm.trans (part_stop hci2c hcj2c (by omega) (by omega))) (by omega) (by omega)).2⟩) ?_
       refine Fin.retY2 [] rfl (RVal.tmp rfl (Pr.le_refl _)) (RVal.tmp rfl (Pr.le_refl _)) ?_
       · exact ex_in false (fact_in trivial (Pr.le_of_eq (by rw [(pa_start h0 hab hal hpv (hso.symm.trans (part_stop hci2c hcj2c (by omega) (by omega))) (by omega) (by omega)).1, Int.toNat_of_nonneg (by omega)])))
      ·
       have q14 := Nrm.nrm h14
       refine Tr.skip ?_
       refine Fin.go ?_
       refine Tr.seq ?_
       refine Tr.regX mixed [none, none, none, none, none, none, none, some (0, 0, false, 0), none, none, none, some (0, 0, false, 0), none, some (0, 0, true, 0), none, some (0, 0, true, 0)] (by kernel_rfl) ?_
       refine Cx.op rfl rfl (by decide) (fun _ => ok_move rfl (vl rfl)) ?_
       refine Cx.op rfl rfl (by decide) (fun _ => ok_move rfl (vl rfl)) ?_
       refine Cx.op rfl rfl (by decide) (fun _ => ok_move rfl (vl rfl)) ?_
       refine Cx.op rfl rfl (by decide) (fun _ => ok_move rfl (vl rfl)) ?_
       refine Cx.op rfl rfl (by decide) (fun _ => ok_move rfl (vl rfl)) ?_
       refine Cx.op rfl rfl (by decide) (fun _ => ok_move rfl (vl rfl)) ?_
       refine Cx.op rfl rfl (by decide) (fun _ => okp_indexSl rfl Tryz.underlying29 sz40 (vl rfl) (vl rfl) (by omega) (by omega)) ?_
       refine Cx.rd 0 rfl rfl rfl (by decide) (rd_loadA rfl agg40 sz40 (vl rfl) (cells_atG (f := rowFc) (fun _ => rfl) (by omega)) rfl) ?_
       refine Cx.op rfl rfl (by decide) (fun _ => ok_move rfl (vl rfl)) ?_
       refine Cx.op rfl rfl (by decide) (fun _ => ok_move rfl (vl rfl)) ?_
       refine Cx.op rfl rfl (by decide) (fun _ => okp_indexSl rfl Tryz.underlying29 sz40 (vl rfl) (vl rfl) (by omega) (by omega)) ?_
       refine Cx.rd 0 rfl rfl rfl (by decide) (rd_loadA rfl agg40 sz40 (vl rfl) (cells_atG (f := rowFc) (fun _ => rfl) (by omega)) rfl) ?_
       refine Cx.op rfl rfl (by decide) (fun _ => okp_indexSl rfl Tryz.underlying29 sz40 (vl rfl) (vl rfl) (by omega) (by omega)) ?_
       refine Cx.ef0 0 rfl rfl (ef_store rfl rfl (vl rfl) (VL.le (vl rfl) (agg_cellsP _)) sz40 rfl (by rw [cells_len (sz := 8) (fun _ => rfl)]; first | omega | (simp only [List.length_set]; omega)) (cells_setG (f := rowFc) (fun _ => rfl) (by first | omega | (simp only [List.length_set]; omega)))) ?_
       refine Cx.op rfl rfl (by decide) (fun _ => okp_indexSl rfl Tryz.underlying29 sz40 (vl rfl) (vl rfl) (by omega) (by omega)) ?_
       refine Cx.ef0 0 rfl rfl (ef_store rfl rfl (vl rfl) (VL.le (vl rfl) (agg_cellsP _)) sz40 rfl (by rw [cells_len (sz := 8) (fun _ => rfl)]; first | omega | (simp only [List.length_set]; omega)) (cells_setG (f := rowFc) (fun _ => rfl) (by first | omega | (simp only [List.length_set]; omega)))) ?_
       refine Cx.nil ⟨rfl, ?_⟩
       refine FinX.done (AllC.cons (AllC.cons (AllC.map _))) ?_
       refine Fin.go ?_
       refine Tr.weak [(0, _), (1, _), (4, _), (12, _), (13, _)] ⟨⟨_, rfl, Pr.le_refl _⟩, ⟨_, rfl, Pr.le_refl _⟩, ⟨_, rfl, Pr.le_refl _⟩, ⟨_, rfl, Pr.le_refl _⟩, ⟨_, rfl, Pr.le_refl _⟩, trivial⟩ ?_
       refine Tr.seq ?_
       refine Tr.reg0 ?_
       refine Ch.op rfl rfl (by decide) (ok_move rfl (vl rfl)) ?_
       first
        | (refine Ch.op rfl rfl (by decide) (ok_add rfl (vl rfl) (vl rfl) ?hin) ?_; case hin => unfold InI; omega)
        | refine Ch.op rfl rfl (by decide) (ok_int rfl (vl rfl) (vl rfl) rfl) ?_
       refine Ch.op rfl rfl (by decide) (ok_assign rfl (vl rfl)) ?_
       refine Ch.nil ?_
       refine Fin.go ?_
       refine Tr.reg0 ?_
       refine Ch.op rfl rfl (by decide) (ok_move rfl (vl rfl)) ?_
       first
        | (refine Ch.op rfl rfl (by decide) (ok_sub rfl (vl rfl) (vl rfl) ?hin) ?_; case hin => unfold InI; omega)
        | refine Ch.op rfl rfl (by decide) (ok_int rfl (vl rfl) (vl rfl) rfl) ?_
       refine Ch.op rfl rfl (by decide) (ok_assign rfl (vl rfl)) ?_
       refine Ch.nil ?_
       refine Fin.block ?_
       exact Fin.famD3V0 (i2 + 1) (j2 - 1) (_)  (⟨⟨⟨⟨by omega, by omega⟩, by omega, by omega⟩, by simp only [List.length_set]; exact hsl, (part_go hci2c hcj2c (by omega) (by omega) (by omega) (by omega)).trans hso⟩, by omega⟩) ⟨⟨_, rfl, Pr.le_refl _⟩, ⟨_, rfl, Pr.le_refl _⟩, ⟨_, rfl, Pr.le_refl _⟩, ⟨_, rfl, Pr.le_refl _⟩, ⟨_, rfl, Pr.le_refl _⟩, trivial⟩ (fun _ _ h => h)
set_option maxRecDepth 20000 in
theorem w_sins5F {l : List Fct} {c : Fct × Fct → Int} {b0 cap len : Nat} {sp : List Value} {a b : Int} (hln : l.length = len) (hll : len ≤ 1000000) (hw : Go.Sort.SWO (ltc c)) (h0 : 0 ≤ a) (hab : a < b) (hb : b ≤ len) (hb5 : b < 50) : FunM Tryz.prog 110 [is (.slice (some ⟨b0, 0, none⟩) len cap), int a, int b, clo Tryz.prog (fun x : Fct × Fct => [agg (rowFc x.1), agg (rowFc x.2)]) (fun x => int (c x))] (ex fun z : Bool => fact (z = true → Go.Sort.SortedIn (ltc c) a.toNat b.toNat l.toArray) (bool z)) (cellsRes true b0 40 ((l.map rowFc).flatten ++ sp.map is)) (fun _ => cellsRes true b0 40 ((l.map rowFc).flatten ++ sp.map is)) := by
 refine FunM.of Tryz.func110 rfl rfl (by exact Nat.le_of_ble_eq_true rfl) fun M0 w0 S rs M1 w1 => ?_
 refine Tr.seq ?_
 refine Tr.reg0 ?_
 refine Ch.op rfl rfl (by decide) (ok_assign rfl (vl rfl)) ?_
 refine Ch.nil ?_
 refine Fin.go ?_
 refine Tr.seq ?_
 refine Tr.reg0 ?_
 refine Ch.op rfl rfl (by decide) (ok_move rfl (vl rfl)) ?_
 first
  | (refine Ch.op rfl rfl (by decide) (ok_add rfl (vl rfl) (vl rfl) ?hin) ?_; case hin => unfold InI; omega)
  | refine Ch.op rfl rfl (by decide) (ok_int rfl (vl rfl) (vl rfl) rfl) ?_
 refine Ch.op rfl rfl (by decide) (ok_assign rfl (vl rfl)) ?_
 refine Ch.nil ?_
 refine Fin.go ?_
 refine Tr.seq ?_
 refine Tr.seq ?_
 refine Tr.reg0 ?_
 refine Ch.op rfl rfl (by decide) (ok_assign rfl (vl rfl)) ?_
 refine Ch.nil ?_
 refine Fin.go ?_
 refine Tr.block ?_
 refine Tr.loopD2V0 [(0, _), (1, _), (2, _), (3, _)] ⟨⟨_, rfl, Pr.le_refl _⟩, ⟨_, rfl, Pr.le_refl _⟩, ⟨_, rfl, Pr.le_refl _⟩, ⟨_, rfl, Pr.le_refl _⟩, trivial⟩ (fun (i : Int) (j : Int) => [(9, int i), (10, int j)]) (fun (i : Int) (j : Int) => Hp M0 w0 S (cellsRes true b0 40 ((l.map rowFc).flatten ++ sp.map is) :: extRes M1 w1 :: rs)) (fun (i : Int) (j : Int) => (j = 0 ∧ a < i ∧ i ≤ b) ∧ Adj c a i l) (fun (i : Int) (j : Int) => (5 - j).toNat) (a + 1) (0)  (⟨⟨rfl, by omega, by omega⟩, Adj.start a l h0⟩) ⟨⟨_, rfl, Pr.le_refl _⟩, ⟨_, rfl, Pr.le_refl _⟩, trivial⟩ (fun _ _ h => h) ?_
 rintro i j  ⟨⟨hj0, hi1, hi2⟩, hadj⟩
 refine Tr.seq ?_
 refine Tr.seq ?_
 refine Tr.reg0 ?_
 refine Ch.op rfl rfl (by decide) (ok_move rfl (vl rfl)) ?_
 refine Ch.op rfl rfl (by decide) (ok_int rfl (vl rfl) (vl rfl) rfl) ?_
 refine Ch.nil ?_
 refine Fin.go ?_
 refine Tr.cond rfl (fun h1 => ?_) (fun h1 => ?_)
 ·
  have q1 := Nrm.nrm h1
  skip
  refine Tr.skip ?_
  refine Fin.go ?_
  refine Tr.seq ?_
  refine Tr.block ?_
  refine Tr.seq ?_
  refine Tr.block ?_
  refine Tr.loopw [(0, _), (1, _), (2, _), (3, _), (10, _)] ⟨⟨_, rfl, Pr.le_refl _⟩, ⟨_, rfl, Pr.le_refl _⟩, ⟨_, rfl, Pr.le_refl _⟩, ⟨_, rfl, Pr.le_refl _⟩, ⟨_, rfl, Pr.le_refl _⟩, trivial⟩ (fun i2 : Int => [(9, int i2)]) (fun i2 : Int => (a < i2 ∧ i2 ≤ b) ∧ Adj c a i2 l) (fun i2 : Int => (b - i2).toNat) i (⟨⟨hi1, hi2⟩, hadj⟩) ⟨⟨_, rfl, Pr.le_refl _⟩, trivial⟩ ?_
  rintro i2 ⟨⟨hi3, hi4⟩, hadj2⟩
  refine Tr.seq ?_
  refine Tr.seq ?_
  refine Tr.reg1 mixed (by kernel_rfl) ?_
  refine Ch.op rfl rfl (by decide) (ok_move rfl (vl rfl)) ?_
  refine Ch.op rfl rfl (by decide) (ok_move rfl (vl rfl)) ?_
  refine Ch.op rfl rfl (by decide) (ok_int rfl (vl rfl) (vl rfl) rfl) ?_
  refine Ch.op rfl rfl (by decide) (ok_move rfl (vl rfl)) ?_
  refine Ch.cases 22 rfl (fun h2 => ?_) (fun h2 => ?_)
  ·
   have q2 := Nrm.nrm h2
   refine Ch.yes rfl rfl rfl h2 rfl (by decide) (ok_move rfl (vl rfl)) ?_
   refine Ch.yes rfl rfl rfl h2 rfl (by decide) (ok_move rfl (vl rfl)) ?_
   refine Ch.yes rfl rfl rfl h2 rfl (by decide) (ok_move rfl (vl rfl)) ?_
   refine Ch.yes rfl rfl rfl h2 rfl (by decide) (okp_indexSl rfl Tryz.underlying29 sz40 (vl rfl) (vl rfl) (by omega) (by omega)) ?_
   refine Ch.yes rfl rfl rfl h2 rfl (by decide) (ok_rd 0 rfl (rd_loadA rfl agg40 sz40 (vl rfl) (cells_atG (f := rowFc) (fun _ => rfl) (by omega)) rfl)) ?_
   refine Ch.yes rfl rfl rfl h2 rfl (by decide) (ok_move rfl (vl rfl)) ?_
   refine Ch.yes rfl rfl rfl h2 rfl (by decide) (ok_move rfl (vl rfl)) ?_
   first
    | (refine Ch.yes rfl rfl rfl h2 rfl (by decide) (ok_sub rfl (vl rfl) (vl rfl) ?hin) ?_; case hin => unfold InI; omega)
    | refine Ch.yes rfl rfl rfl h2 rfl (by decide) (ok_int rfl (vl rfl) (vl rfl) rfl) ?_
   refine Ch.yes rfl rfl rfl h2 rfl (by decide) (okp_indexSl rfl Tryz.underlying29 sz40 (vl rfl) (vl rfl) (by omega) (by omega)) ?_
   refine Ch.yes rfl rfl rfl h2 rfl (by decide) (ok_rd 0 rfl (rd_loadA rfl agg40 sz40 (vl rfl) (cells_atG (f := rowFc) (fun _ => rfl) (by omega)) rfl)) ?_
   refine Ch.yes rfl rfl rfl h2 rfl (by decide) (ok_callc (_, _) rfl (vl rfl) ⟨⟨_, rfl, Pr.le_refl _⟩, ⟨_, rfl, Pr.le_refl _⟩, trivial⟩) ?_
   refine Ch.yes rfl rfl rfl h2 rfl (by decide) (ok_int rfl (vl rfl) (vl rfl) rfl) ?_
   refine Ch.yes rfl rfl rfl h2 rfl (by decide) (ok_not rfl (vl rfl)) ?_
   refine Ch.op rfl rfl (by decide) (ok_pick_t rfl (vl rfl) h2 (vl rfl)) ?_
   refine Ch.nil ?_
   refine Fin.go ?_
   refine Tr.weak [(0, _), (1, _), (2, _), (3, _), (9, _), (10, _), (36, _)] ⟨⟨_, rfl, Pr.le_refl _⟩, ⟨_, rfl, Pr.le_refl _⟩, ⟨_, rfl, Pr.le_refl _⟩, ⟨_, rfl, Pr.le_refl _⟩, ⟨_, rfl, Pr.le_refl _⟩, ⟨_, rfl, Pr.le_refl _⟩, ⟨_, rfl, Pr.le_refl _⟩, trivial⟩ ?_
   refine Tr.cond rfl (fun h3 => ?_) (fun h3 => ?_)
   ·
    have q3 := Nrm.nrm h3
    have := h3
    refine Tr.skip ?_
    refine Fin.go ?_
    refine Tr.block ?_
    refine Tr.reg0 ?_
    refine Ch.op rfl rfl (by decide) (ok_move rfl (vl rfl)) ?_
    first
     | (refine Ch.op rfl rfl (by decide) (ok_add rfl (vl rfl) (vl rfl) ?hin) ?_; case hin => unfold InI; omega)
     | refine Ch.op rfl rfl (by decide) (ok_int rfl (vl rfl) (vl rfl) rfl) ?_
    refine Ch.op rfl rfl (by decide) (ok_assign rfl (vl rfl)) ?_
    refine Ch.nil ?_
    refine Fin.block ?_
    exact Fin.fam_same (i2 + 1) ⟨⟨⟨by omega, by omega⟩, hadj2.go h0 (by omega) rfl (by omega) (by omega) (by assumption)⟩, by omega⟩ ⟨⟨_, rfl, Pr.le_refl _⟩, ⟨_, rfl, Pr.le_refl _⟩, ⟨_, rfl, Pr.le_refl _⟩, ⟨_, rfl, Pr.le_refl _⟩, ⟨_, rfl, Pr.le_refl _⟩, ⟨_, rfl, Pr.le_refl _⟩, trivial⟩
   ·
    have q3 := Nrm.nrm h3
    have := h3
    refine Tr.exit ?_
    refine Fin.then_exit ?_
    refine Fin.then_exit ?_
    refine Fin.block_here ?_
    refine Fin.go ?_
    refine Tr.seq ?_
    refine Tr.seq ?_
    refine Tr.reg0 ?_
    refine Ch.op rfl rfl (by decide) (ok_move rfl (vl rfl)) ?_
    refine Ch.op rfl rfl (by decide) (ok_move rfl (vl rfl)) ?_
    refine Ch.op rfl rfl (by decide) (ok_int rfl (vl rfl) (vl rfl) rfl) ?_
    refine Ch.nil ?_
    refine Fin.go ?_
    refine Tr.cond rfl (fun h4 => ?_) (fun h4 => ?_)
    ·
     have q4 := Nrm.nrm h4
     refine Tr.seq ?_
     refine Tr.reg0 ?_
     refine Ch.op rfl rfl (by decide) (ok_assign rfl (vl rfl)) ?_
     refine Ch.nil ?_
     refine Fin.go ?_
     refine Tr.ret ?_
     refine Fin.then_ret ?_
     refine Fin.block_ret ?_
     refine Fin.then_ret ?_
     refine Fin.then_ret ?_
     refine Fin.block_ret ?_
     refine Fin.then_ret ?_
     refine Fin.retM1 rfl rfl ?_ (fun _ _ _ _ => rfl)
     · first | exact ex_in true (fact_in (fun _ => by rw [show b = i2 by omega]; exact hadj2.sorted hw) (Pr.le_refl _)) | exact ex_in false (fact_in (fun h => nomatch h) (Pr.le_refl _))
    ·
     have q4 := Nrm.nrm h4
     refine Tr.skip ?_
     refine Fin.go ?_
     refine Tr.seq ?_
     refine Tr.seq ?_
     refine Tr.reg0 ?_
     refine Ch.op rfl rfl (by decide) (ok_move rfl (vl rfl)) ?_
     refine Ch.op rfl rfl (by decide) (ok_move rfl (vl rfl)) ?_
     first
      | (refine Ch.op rfl rfl (by decide) (ok_sub rfl (vl rfl) (vl rfl) ?hin) ?_; case hin => unfold InI; omega)
      | refine Ch.op rfl rfl (by decide) (ok_int rfl (vl rfl) (vl rfl) rfl) ?_
     refine Ch.op rfl rfl (by decide) (ok_int rfl (vl rfl) (vl rfl) rfl) ?_
     refine Ch.nil ?_
     refine Fin.go ?_
     refine Tr.weak [(0, _), (1, _), (2, _), (3, _), (9, _), (10, _), (45, _)] ⟨⟨_, rfl, Pr.le_refl _⟩, ⟨_, rfl, Pr.le_refl _⟩, ⟨_, rfl, Pr.le_refl _⟩, ⟨_, rfl, Pr.le_refl _⟩, ⟨_, rfl, Pr.le_refl _⟩, ⟨_, rfl, Pr.le_refl _⟩, ⟨_, rfl, Pr.le_refl _⟩, trivial⟩ ?_
     refine Tr.cond rfl (fun h5 => ?_) (fun h5 => ?_)
     ·
      have q5 := Nrm.nrm h5
      refine Tr.seq ?_
      refine Tr.reg0 ?_
      refine Ch.op rfl rfl (by decide) (ok_assign rfl (vl rfl)) ?_
      refine Ch.nil ?_
      refine Fin.go ?_
      refine Tr.ret ?_
      refine Fin.then_ret ?_
      refine Fin.block_ret ?_
      refine Fin.then_ret ?_
      refine Fin.then_ret ?_
      refine Fin.block_ret ?_
      refine Fin.then_ret ?_
      refine Fin.retM1 rfl rfl ?_ (fun _ _ _ _ => rfl)
      · first | exact ex_in true (fact_in (fun _ => by rw [show b = i2 by omega]; exact hadj2.sorted hw) (Pr.le_refl _)) | exact ex_in false (fact_in (fun h => nomatch h) (Pr.le_refl _))
     ·
      have q5 := Nrm.nrm h5
      exfalso; omega
  ·
   have q2 := Nrm.nrm h2
   refine Ch.no rfl rfl rfl (ne_true h2) rfl (by decide) ?_
   refine Ch.no rfl rfl rfl (ne_true h2) rfl (by decide) ?_
   refine Ch.no rfl rfl rfl (ne_true h2) rfl (by decide) ?_
   refine Ch.no rfl rfl rfl (ne_true h2) rfl (by decide) ?_
   refine Ch.no rfl rfl rfl (ne_true h2) rfl (by decide) ?_
   refine Ch.no rfl rfl rfl (ne_true h2) rfl (by decide) ?_
   refine Ch.no rfl rfl rfl (ne_true h2) rfl (by decide) ?_
   refine Ch.no rfl rfl rfl (ne_true h2) rfl (by decide) ?_
   refine Ch.no rfl rfl rfl (ne_true h2) rfl (by decide) ?_
   refine Ch.no rfl rfl rfl (ne_true h2) rfl (by decide) ?_
   refine Ch.no rfl rfl rfl (ne_true h2) rfl (by decide) ?_
   refine Ch.no rfl rfl rfl (ne_true h2) rfl (by decide) ?_
   refine Ch.no rfl rfl rfl (ne_true h2) rfl (by decide) ?_
   refine Ch.op rfl rfl (by decide) (ok_pick_f rfl (vl rfl) h2 (vl rfl)) ?_
   refine Ch.nil ?_
   refine Fin.go ?_
   refine Tr.weak [(0, _), (1, _), (2, _), (3, _), (9, _), (10, _), (36, _)] ⟨⟨_, rfl, Pr.le_refl _⟩, ⟨_, rfl, Pr.le_refl _⟩, ⟨_, rfl, Pr.le_refl _⟩, ⟨_, rfl, Pr.le_refl _⟩, ⟨_, rfl, Pr.le_refl _⟩, ⟨_, rfl, Pr.le_refl _⟩, ⟨_, rfl, Pr.le_refl _⟩, trivial⟩ ?_
   refine Tr.cond rfl (fun h => nomatch h) (fun _ => ?_)
   refine Tr.exit ?_
   refine Fin.then_exit ?_
   refine Fin.then_exit ?_
   refine Fin.block_here ?_
   refine Fin.go ?_
   refine Tr.seq ?_
   refine Tr.seq ?_
   refine Tr.reg0 ?_
   refine Ch.op rfl rfl (by decide) (ok_move rfl (vl rfl)) ?_
   refine Ch.op rfl rfl (by decide) (ok_move rfl (vl rfl)) ?_
   refine Ch.op rfl rfl (by decide) (ok_int rfl (vl rfl) (vl rfl) rfl) ?_
   refine Ch.nil ?_
   refine Fin.go ?_
   refine Tr.cond rfl (fun h6 => ?_) (fun h6 => ?_)
   ·
    have q6 := Nrm.nrm h6
    refine Tr.seq ?_
    refine Tr.reg0 ?_
    refine Ch.op rfl rfl (by decide) (ok_assign rfl (vl rfl)) ?_
    refine Ch.nil ?_
    refine Fin.go ?_
    refine Tr.ret ?_
    refine Fin.then_ret ?_
    refine Fin.block_ret ?_
    refine Fin.then_ret ?_
    refine Fin.then_ret ?_
    refine Fin.block_ret ?_
    refine Fin.then_ret ?_
    refine Fin.retM1 rfl rfl ?_ (fun _ _ _ _ => rfl)
    · first | exact ex_in true (fact_in (fun _ => by rw [show b = i2 by omega]; exact hadj2.sorted hw) (Pr.le_refl _)) | exact ex_in false (fact_in (fun h => nomatch h) (Pr.le_refl _))
   ·
    have q6 := Nrm.nrm h6
    refine Tr.skip ?_
    refine Fin.go ?_
    refine Tr.seq ?_
    refine Tr.seq ?_
    refine Tr.reg0 ?_
    refine Ch.op rfl rfl (by decide) (ok_move rfl (vl rfl)) ?_
    refine Ch.op rfl rfl (by decide) (ok_move rfl (vl rfl)) ?_
    first
     | (refine Ch.op rfl rfl (by decide) (ok_sub rfl (vl rfl) (vl rfl) ?hin) ?_; case hin => unfold InI; omega)
     | refine Ch.op rfl rfl (by decide) (ok_int rfl (vl rfl) (vl rfl) rfl) ?_
    refine Ch.op rfl rfl (by decide) (ok_int rfl (vl rfl) (vl rfl) rfl) ?_
    refine Ch.nil ?_
    refine Fin.go ?_
    refine Tr.weak [(0, _), (1, _), (2, _), (3, _), (9, _), (10, _), (45, _)] ⟨⟨_, rfl, Pr.le_refl _⟩, ⟨_, rfl, Pr.le_refl _⟩, ⟨_, rfl, Pr.le_refl _⟩, ⟨_, rfl, Pr.le_refl _⟩, ⟨_, rfl, Pr.le_refl _⟩, ⟨_, rfl, Pr.le_refl _⟩, ⟨_, rfl, Pr.le_refl _⟩, trivial⟩ ?_
    refine Tr.cond rfl (fun h7 => ?_) (fun h7 => ?_)
    ·
     have q7 := Nrm.nrm h7
     refine Tr.seq ?_
     refine Tr.reg0 ?_
     refine Ch.op rfl rfl (by decide) (ok_assign rfl (vl rfl)) ?_
     refine Ch.nil ?_
     refine Fin.go ?_
     refine Tr.ret ?_
     refine Fin.then_ret ?_
     refine Fin.block_ret ?_
     refine Fin.then_ret ?_
     refine Fin.then_ret ?_
     refine Fin.block_ret ?_
     refine Fin.then_ret ?_
     refine Fin.retM1 rfl rfl ?_ (fun _ _ _ _ => rfl)
     · first | exact ex_in true (fact_in (fun _ => by rw [show b = i2 by omega]; exact hadj2.sorted hw) (Pr.le_refl _)) | exact ex_in false (fact_in (fun h => nomatch h) (Pr.le_refl _))
    ·
     have q7 := Nrm.nrm h7
     exfalso; omega
 ·
  have q1 := Nrm.nrm h1
  have hj5 : ¬ j < 5 := of_decide_eq_false h1
  exfalso; omega
set_option maxRecDepth 20000 in
theorem w_sord2F {sb : Nat} {l : List Fct} {c : Fct × Fct → Int} {b0 cap len : Nat} {sp : List Value} {a b : Int} (hln : l.length = len) (hll : len ≤ 1000000) (h0 : 0 ≤ a) (ha : a < len) (h1 : 0 ≤ b) (hb : b < len) : FunR Tryz.prog 159 [is (.slice (some ⟨b0, 0, none⟩) len cap), int a, int b, is (.pointer (some ⟨sb, 0, none⟩)), clo Tryz.prog (fun x : Fct × Fct => [agg (rowFc x.1), agg (rowFc x.2)]) (fun x => int (c x))] (ex fun z : Int × Int => fact ((z.1 = a ∧ z.2 = b) ∨ (z.1 = b ∧ z.2 = a)) (tup [int z.1, int z.2])) (cellsRes true sb 3 [anyK .i64]) (cellsRes true sb 3 [anyK .i64]) (cellsRes true b0 40 ((l.map rowFc).flatten ++ sp.map is)) := by
 refine FunR.of Tryz.func159 rfl rfl (by exact Nat.le_of_ble_eq_true rfl) fun M0 w0 S rs M1 w1 => ?_
 refine Tr.seq ?_
 refine Tr.reg0 ?_
 refine Ch.op rfl rfl (by decide) (ok_assign rfl (vl rfl)) ?_
 refine Ch.op rfl rfl (by decide) (ok_assign rfl (vl rfl)) ?_
 refine Ch.nil ?_
 refine Fin.go ?_
 refine Tr.seq ?_
 refine Tr.seq ?_
 refine Tr.reg1 mixed (by kernel_rfl) ?_
 refine Ch.op rfl rfl (by decide) (ok_move rfl (vl rfl)) ?_
 refine Ch.op rfl rfl (by decide) (ok_move rfl (vl rfl)) ?_
 refine Ch.op rfl rfl (by decide) (ok_move rfl (vl rfl)) ?_
 refine Ch.op rfl rfl (by decide) (okp_indexSl rfl Tryz.underlying29 sz40 (vl rfl) (vl rfl) (by omega) (by omega)) ?_
 refine Ch.op rfl rfl (by decide) (ok_rd 2 rfl (rd_loadA rfl agg40 sz40 (vl rfl) (cells_atG (f := rowFc) (fun _ => rfl) (by omega)) rfl)) ?_
 refine Ch.op rfl rfl (by decide) (ok_move rfl (vl rfl)) ?_
 refine Ch.op rfl rfl (by decide) (ok_move rfl (vl rfl)) ?_
 refine Ch.op rfl rfl (by decide) (okp_indexSl rfl Tryz.underlying29 sz40 (vl rfl) (vl rfl) (by omega) (by omega)) ?_
 refine Ch.op rfl rfl (by decide) (ok_rd 2 rfl (rd_loadA rfl agg40 sz40 (vl rfl) (cells_atG (f := rowFc) (fun _ => rfl) (by omega)) rfl)) ?_
 refine Ch.op rfl rfl (by decide) (ok_callc (_, _) rfl (vl rfl) ⟨⟨_, rfl, Pr.le_refl _⟩, ⟨_, rfl, Pr.le_refl _⟩, trivial⟩) ?_
 refine Ch.op rfl rfl (by decide) (ok_int rfl (vl rfl) (vl rfl) rfl) ?_
 refine Ch.nil ?_
 refine Fin.go ?_
 refine Tr.cond rfl (fun h1 => ?_) (fun h1 => ?_)
 ·
  have q1 := Nrm.nrm h1
  refine Tr.seq ?_
  refine Tr.regT ?_
  refine TO.op rfl rfl (by decide) (ok_move rfl (vl rfl)) ?_
  refine TO.op rfl rfl (by decide) (okp_nilCheck rfl (vl rfl)) ?_
  refine TO.rd 0 rfl rfl rfl (by decide) (rd_load1 rfl one3 (vl rfl) rfl) ?_
  refine TO.op rfl rfl (by decide) (ok_addK rfl (vl rfl) (VL.le (vl rfl) (is_anyK _ _))) ?_
  refine TO.op rfl rfl (by decide) (okp_nilCheck rfl (vl rfl)) ?_
  refine TO.store_all 0 rfl rfl rfl (vl rfl) (VL.le (vl rfl) (one_cellsP _)) rfl sz3 rfl rfl ?_
  refine TO.nil ?_
  refine Fin.go ?_
  refine Tr.weak [(1, _), (2, _)] ⟨⟨_, rfl, Pr.le_refl _⟩, ⟨_, rfl, Pr.le_refl _⟩, trivial⟩ ?_
  refine Tr.seq ?_
  refine Tr.reg0 ?_
  refine Ch.op rfl rfl (by decide) (ok_move rfl (vl rfl)) ?_
  refine Ch.op rfl rfl (by decide) (ok_move rfl (vl rfl)) ?_
  refine Ch.op rfl rfl (by decide) (ok_assign rfl (vl rfl)) ?_
  refine Ch.op rfl rfl (by decide) (ok_assign rfl (vl rfl)) ?_
  refine Ch.nil ?_
  refine Fin.go ?_
  refine Tr.ret ?_
  refine Fin.then_ret ?_
  refine Fin.retY2 [] rfl (RVal.tmp rfl (Pr.le_refl _)) (RVal.tmp rfl (Pr.le_refl _)) ?_
  · exact ex_in (b, a) (fact_in (.inr ⟨rfl, rfl⟩) (Pr.le_refl _))
 ·
  have q1 := Nrm.nrm h1
  refine Tr.skip ?_
  refine Fin.go ?_
  refine Tr.seq ?_
  refine Tr.reg0 ?_
  refine Ch.op rfl rfl (by decide) (ok_move rfl (vl rfl)) ?_
  refine Ch.op rfl rfl (by decide) (ok_move rfl (vl rfl)) ?_
  refine Ch.op rfl rfl (by decide) (ok_assign rfl (vl rfl)) ?_
  refine Ch.op rfl rfl (by decide) (ok_assign rfl (vl rfl)) ?_
  refine Ch.nil ?_
  refine Fin.go ?_
  refine Tr.weak [(10, _), (11, _)] ⟨⟨_, rfl, Pr.le_refl _⟩, ⟨_, rfl, Pr.le_refl _⟩, trivial⟩ ?_
  refine Tr.ret ?_
  refine Fin.retY2 [] rfl (RVal.tmp rfl (Pr.le_refl _)) (RVal.tmp rfl (Pr.le_refl _)) ?_
  · exact ex_in (a, b) (fact_in (.inl ⟨rfl, rfl⟩) (Pr.le_refl _))
set_option maxRecDepth 20000 in
theorem w_smedF {sb : Nat} {l : List Fct} {c : Fct × Fct → Int} {b0 cap len : Nat} {sp : List Value} {a b d : Int} (hln : l.length = len) (hll : len ≤ 1000000) (h0 : 0 ≤ a) (ha : a < len) (h1 : 0 ≤ b) (hb : b < len) (h2 : 0 ≤ d) (hd : d < len) : FunR Tryz.prog 140 [is (.slice (some ⟨b0, 0, none⟩) len cap), int a, int b, int d, is (.pointer (some ⟨sb, 0, none⟩)), clo Tryz.prog (fun x : Fct × Fct => [agg (rowFc x.1), agg (rowFc x.2)]) (fun x => int (c x))] (ex fun z : Int => fact (z = a ∨ z = b ∨ z = d) (int z)) (cellsRes true sb 3 [anyK .i64]) (cellsRes true sb 3 [anyK .i64]) (cellsRes true b0 40 ((l.map rowFc).flatten ++ sp.map is)) := by
 refine FunR.of Tryz.func140 rfl rfl (by exact Nat.le_of_ble_eq_true rfl) fun M0 w0 S rs M1 w1 => ?_
 refine Tr.seq ?_
 refine Tr.reg0 ?_
 refine Ch.op rfl rfl (by decide) (ok_assign rfl (vl rfl)) ?_
 refine Ch.nil ?_
 refine Fin.go ?_
 refine Tr.seq ?_
 refine Tr.regT ?_
 refine TO.op rfl rfl (by decide) (ok_move rfl (vl rfl)) ?_
 refine TO.op rfl rfl (by decide) (ok_move rfl (vl rfl)) ?_
 refine TO.op rfl rfl (by decide) (ok_move rfl (vl rfl)) ?_
 refine TO.op rfl rfl (by decide) (ok_move rfl (vl rfl)) ?_
 refine TO.op rfl rfl (by decide) (ok_move rfl (vl rfl)) ?_
 refine TO.callR 0 2 rfl rfl (by decide) rfl rfl (by decide) rfl (w_sord2F (by omega) (by omega) (by omega) (by omega) (by omega) (by omega)) ⟨⟨_, rfl, Pr.le_refl _⟩, ⟨_, rfl, Pr.le_refl _⟩, ⟨_, rfl, Pr.le_refl _⟩, ⟨_, rfl, Pr.le_refl _⟩, ⟨_, rfl, Pr.le_refl _⟩, trivial⟩ ?_
 refine TO.ex 19 rfl (fun z1 => TO.fact 19 rfl fun hz1 => ?_)
 refine TO.op rfl rfl (by decide) (ok_move rfl (vl rfl)) ?_
 refine TO.op rfl rfl (by decide) (ok_extract rfl (vl rfl) rfl) ?_
 refine TO.op rfl rfl (by decide) (ok_extract rfl (vl rfl) rfl) ?_
 refine TO.op rfl rfl (by decide) (ok_assign rfl (vl rfl)) ?_
 refine TO.op rfl rfl (by decide) (ok_assign rfl (vl rfl)) ?_
 refine TO.nil ?_
 refine Fin.go ?_
 refine Tr.seq ?_
 refine Tr.regT ?_
 refine TO.op rfl rfl (by decide) (ok_move rfl (vl rfl)) ?_
 refine TO.op rfl rfl (by decide) (ok_move rfl (vl rfl)) ?_
 refine TO.op rfl rfl (by decide) (ok_move rfl (vl rfl)) ?_
 refine TO.op rfl rfl (by decide) (ok_move rfl (vl rfl)) ?_
 refine TO.op rfl rfl (by decide) (ok_move rfl (vl rfl)) ?_
 refine TO.callR 0 2 rfl rfl (by decide) rfl rfl (by decide) rfl (w_sord2F (by omega) (by omega) (by omega) (by omega) (by omega) (by omega)) ⟨⟨_, rfl, Pr.le_refl _⟩, ⟨_, rfl, Pr.le_refl _⟩, ⟨_, rfl, Pr.le_refl _⟩, ⟨_, rfl, Pr.le_refl _⟩, ⟨_, rfl, Pr.le_refl _⟩, trivial⟩ ?_
 refine TO.ex 28 rfl (fun z2 => TO.fact 28 rfl fun hz2 => ?_)
 refine TO.op rfl rfl (by decide) (ok_move rfl (vl rfl)) ?_
 refine TO.op rfl rfl (by decide) (ok_extract rfl (vl rfl) rfl) ?_
 refine TO.op rfl rfl (by decide) (ok_extract rfl (vl rfl) rfl) ?_
 refine TO.op rfl rfl (by decide) (ok_assign rfl (vl rfl)) ?_
 refine TO.op rfl rfl (by decide) (ok_assign rfl (vl rfl)) ?_
 refine TO.nil ?_
 refine Fin.go ?_
 refine Tr.weak [(0, _), (1, _), (2, _), (4, _), (5, _)] ⟨⟨_, rfl, Pr.le_refl _⟩, ⟨_, rfl, Pr.le_refl _⟩, ⟨_, rfl, Pr.le_refl _⟩, ⟨_, rfl, Pr.le_refl _⟩, ⟨_, rfl, Pr.le_refl _⟩, trivial⟩ ?_
 refine Tr.seq ?_
 refine Tr.regT ?_
 refine TO.op rfl rfl (by decide) (ok_move rfl (vl rfl)) ?_
 refine TO.op rfl rfl (by decide) (ok_move rfl (vl rfl)) ?_
 refine TO.op rfl rfl (by decide) (ok_move rfl (vl rfl)) ?_
 refine TO.op rfl rfl (by decide) (ok_move rfl (vl rfl)) ?_
 refine TO.op rfl rfl (by decide) (ok_move rfl (vl rfl)) ?_
 refine TO.callR 0 2 rfl rfl (by decide) rfl rfl (by decide) rfl (w_sord2F (by omega) (by omega) (by omega) (by omega) (by omega) (by omega)) ⟨⟨_, rfl, Pr.le_refl _⟩, ⟨_, rfl, Pr.le_refl _⟩, ⟨_, rfl, Pr.le_refl _⟩, ⟨_, rfl, Pr.le_refl _⟩, ⟨_, rfl, Pr.le_refl _⟩, trivial⟩ ?_
 refine TO.ex 37 rfl (fun z3 => TO.fact 37 rfl fun hz3 => ?_)
 refine TO.op rfl rfl (by decide) (ok_move rfl (vl rfl)) ?_
 refine TO.op rfl rfl (by decide) (ok_extract rfl (vl rfl) rfl) ?_
 refine TO.op rfl rfl (by decide) (ok_extract rfl (vl rfl) rfl) ?_
 refine TO.op rfl rfl (by decide) (ok_assign rfl (vl rfl)) ?_
 refine TO.op rfl rfl (by decide) (ok_assign rfl (vl rfl)) ?_
 refine TO.nil ?_
 refine Fin.go ?_
 refine Tr.weak [(2, _)] ⟨⟨_, rfl, Pr.le_refl _⟩, trivial⟩ ?_
 refine Tr.seq ?_
 refine Tr.reg0 ?_
 refine Ch.op rfl rfl (by decide) (ok_move rfl (vl rfl)) ?_
 refine Ch.op rfl rfl (by decide) (ok_assign rfl (vl rfl)) ?_
 refine Ch.nil ?_
 refine Fin.go ?_
 refine Tr.ret ?_
 refine Fin.retM1 rfl rfl ?_ (fun _ _ _ _ => rfl)
 · exact ex_in _ (fact_in (by omega) (Pr.le_refl _))
set_option maxRecDepth 20000 in
theorem w_spivF {l : List Fct} {c : Fct × Fct → Int} {b0 cap len : Nat} {sp : List Value} {a b : Int} (hln : l.length = len) (hll : len ≤ 1000000) (h0 : 0 ≤ a) (hab : a < b) (hb : b ≤ len) (hb5 : b < 50) : FunM Tryz.prog 108 [is (.slice (some ⟨b0, 0, none⟩) len cap), int a, int b, clo Tryz.prog (fun x : Fct × Fct => [agg (rowFc x.1), agg (rowFc x.2)]) (fun x => int (c x))] (ex fun z : Int × Int => fact (a ≤ z.1 ∧ z.1 < b) (tup [int z.1, int z.2])) (cellsRes true b0 40 ((l.map rowFc).flatten ++ sp.map is)) (fun _ => cellsRes true b0 40 ((l.map rowFc).flatten ++ sp.map is)) := by
 refine FunM.of Tryz.func108 rfl rfl (by exact Nat.le_of_ble_eq_true rfl) fun M0 w0 S rs M1 w1 => ?_
 have hq := quart (n := b - a) (by omega) (by omega)
 obtain ⟨hq1, hq2, hq3⟩ := hq
 refine Tr.seq ?_
 refine Tr.reg0 ?_
 refine Ch.op rfl rfl (by decide) (ok_assign rfl (vl rfl)) ?_
 refine Ch.op rfl rfl (by decide) (ok_assign rfl (vl rfl)) ?_
 refine Ch.nil ?_
 refine Fin.go ?_
 refine Tr.seq ?_
 refine Tr.reg0 ?_
 refine Ch.op rfl rfl (by decide) (ok_move rfl (vl rfl)) ?_
 refine Ch.op rfl rfl (by decide) (ok_move rfl (vl rfl)) ?_
 first
  | (refine Ch.op rfl rfl (by decide) (ok_sub rfl (vl rfl) (vl rfl) ?hin) ?_; case hin => unfold InI; omega)
  | refine Ch.op rfl rfl (by decide) (ok_int rfl (vl rfl) (vl rfl) rfl) ?_
 refine Ch.op rfl rfl (by decide) (ok_assign rfl (vl rfl)) ?_
 refine Ch.nil ?_
 refine Fin.go ?_
 refine Tr.seq ?_
 refine Tr.regT ?_
 refine TO.alloc rfl rfl (by decide) rfl z3 zo3 (fun b1 => ?_)
 refine TO.nil ?_
 refine Fin.go ?_
 refine Tr.seq ?_
 refine Tr.reg0 ?_
 refine Ch.op rfl rfl (by decide) (ok_move rfl (vl rfl)) ?_
 refine Ch.op rfl rfl (by decide) (ok_move rfl (vl rfl)) ?_
 refine Ch.op rfl rfl (by decide) (ok_quo rfl (vl rfl) (vl rfl) (by omega)) ?_
 first
  | (refine Ch.op rfl rfl (by decide) (ok_mul rfl (vl rfl) (vl rfl) ?hin) ?_; case hin => unfold InI; omega)
  | refine Ch.op rfl rfl (by decide) (ok_int rfl (vl rfl) (vl rfl) rfl) ?_
 first
  | (refine Ch.op rfl rfl (by decide) (ok_add rfl (vl rfl) (vl rfl) ?hin) ?_; case hin => unfold InI; omega)
  | refine Ch.op rfl rfl (by decide) (ok_int rfl (vl rfl) (vl rfl) rfl) ?_
 refine Ch.op rfl rfl (by decide) (ok_assign rfl (vl rfl)) ?_
 refine Ch.nil ?_
 refine Fin.go ?_
 refine Tr.weak [(0, _), (1, _), (3, _), (10, _), (11, _), (12, _)] ⟨⟨_, rfl, Pr.le_refl _⟩, ⟨_, rfl, Pr.le_refl _⟩, ⟨_, rfl, Pr.le_refl _⟩, ⟨_, rfl, Pr.le_refl _⟩, ⟨_, rfl, Pr.le_refl _⟩, ⟨_, rfl, Pr.le_refl _⟩, trivial⟩ ?_
 refine Tr.seq ?_
 refine Tr.reg0 ?_
 refine Ch.op rfl rfl (by decide) (ok_move rfl (vl rfl)) ?_
 refine Ch.op rfl rfl (by decide) (ok_move rfl (vl rfl)) ?_
 refine Ch.op rfl rfl (by decide) (ok_quo rfl (vl rfl) (vl rfl) (by omega)) ?_
 first
  | (refine Ch.op rfl rfl (by decide) (ok_mul rfl (vl rfl) (vl rfl) ?hin) ?_; case hin => unfold InI; omega)
  | refine Ch.op rfl rfl (by decide) (ok_int rfl (vl rfl) (vl rfl) rfl) ?_
 first
  | (refine Ch.op rfl rfl (by decide) (ok_add rfl (vl rfl) (vl rfl) ?hin) ?_; case hin => unfold InI; omega)
  | refine Ch.op rfl rfl (by decide) (ok_int rfl (vl rfl) (vl rfl) rfl) ?_
 refine Ch.op rfl rfl (by decide) (ok_assign rfl (vl rfl)) ?_
 refine Ch.nil ?_
 refine Fin.go ?_
 refine Tr.seq ?_
 refine Tr.reg0 ?_
 refine Ch.op rfl rfl (by decide) (ok_move rfl (vl rfl)) ?_
 refine Ch.op rfl rfl (by decide) (ok_move rfl (vl rfl)) ?_
 refine Ch.op rfl rfl (by decide) (ok_quo rfl (vl rfl) (vl rfl) (by omega)) ?_
 first
  | (refine Ch.op rfl rfl (by decide) (ok_mul rfl (vl rfl) (vl rfl) ?hin) ?_; case hin => unfold InI; omega)
  | refine Ch.op rfl rfl (by decide) (ok_int rfl (vl rfl) (vl rfl) rfl) ?_
 first
  | (refine Ch.op rfl rfl (by decide) (ok_add rfl (vl rfl) (vl rfl) ?hin) ?_; case hin => unfold InI; omega)
  | refine Ch.op rfl rfl (by decide) (ok_int rfl (vl rfl) (vl rfl) rfl) ?_
 refine Ch.op rfl rfl (by decide) (ok_assign rfl (vl rfl)) ?_
 refine Ch.nil ?_
 refine Fin.go ?_
 refine Tr.weak [(0, _), (3, _), (10, _), (11, _), (12, _), (13, _), (14, _)] ⟨⟨_, rfl, Pr.le_refl _⟩, ⟨_, rfl, Pr.le_refl _⟩, ⟨_, rfl, Pr.le_refl _⟩, ⟨_, rfl, Pr.le_refl _⟩, ⟨_, rfl, Pr.le_refl _⟩, ⟨_, rfl, Pr.le_refl _⟩, ⟨_, rfl, Pr.le_refl _⟩, trivial⟩ ?_
 refine Tr.seq ?_
 refine Tr.seq ?_
 refine Tr.reg0 ?_
 refine Ch.op rfl rfl (by decide) (ok_move rfl (vl rfl)) ?_
 refine Ch.op rfl rfl (by decide) (ok_int rfl (vl rfl) (vl rfl) rfl) ?_
 refine Ch.nil ?_
 refine Fin.go ?_
 refine Tr.cond rfl (fun h1 => ?_) (fun h1 => ?_)
 ·
  have q1 := Nrm.nrm h1
  refine Tr.seq ?_
  refine Tr.seq ?_
  refine Tr.reg0 ?_
  refine Ch.op rfl rfl (by decide) (ok_move rfl (vl rfl)) ?_
  refine Ch.op rfl rfl (by decide) (ok_int rfl (vl rfl) (vl rfl) rfl) ?_
  refine Ch.nil ?_
  refine Fin.go ?_
  refine Tr.cond rfl (fun h2 => ?_) (fun h2 => ?_)
  ·
   have q2 := Nrm.nrm h2
   exfalso; omega
  ·
   have q2 := Nrm.nrm h2
   refine Tr.skip ?_
   refine Fin.go ?_
   refine Tr.leC 0 [anyK .i64] rfl ⟨is_anyK _ _, trivial⟩ ?_
   refine Tr.regT ?_
   refine TO.op rfl rfl (by decide) (ok_move rfl (vl rfl)) ?_
   refine TO.op rfl rfl (by decide) (ok_move rfl (vl rfl)) ?_
   refine TO.op rfl rfl (by decide) (ok_move rfl (vl rfl)) ?_
   refine TO.op rfl rfl (by decide) (ok_move rfl (vl rfl)) ?_
   refine TO.op rfl rfl (by decide) (ok_move rfl (vl rfl)) ?_
   refine TO.callR 0 1 rfl rfl (by decide) rfl rfl (by decide) rfl (w_smedF (by omega) (by omega) (by omega) (by omega) (by omega) (by omega) (by omega) (by omega)) ⟨⟨_, rfl, Pr.le_refl _⟩, ⟨_, rfl, Pr.le_refl _⟩, ⟨_, rfl, Pr.le_refl _⟩, ⟨_, rfl, Pr.le_refl _⟩, ⟨_, rfl, Pr.le_refl _⟩, ⟨_, rfl, Pr.le_refl _⟩, trivial⟩ ?_
   refine TO.ex 54 rfl (fun z1 => TO.fact 54 rfl fun hz1 => ?_)
   refine TO.op rfl rfl (by decide) (ok_assign rfl (vl rfl)) ?_
   refine TO.nil ?_
   refine Fin.go ?_
   refine Tr.weak [(11, _), (13, _)] ⟨⟨_, rfl, Pr.le_refl _⟩, ⟨_, rfl, Pr.le_refl _⟩, trivial⟩ ?_
   refine Tr.seq ?_
   refine Tr.reg0 ?_
   refine Ch.op rfl rfl (by decide) (ok_rd 0 rfl (rd_load1 rfl one3 (vl rfl) rfl)) ?_
   refine Ch.nil ?_
   refine Fin.go ?_
   refine Tr.drop 0 ?_
   refine Tr.block ?_
   refine Tr.seq ?_
   refine Tr.ex 55 rfl fun sw => ?_
   refine Tr.reg0 ?_
   refine Ch.op rfl rfl (by decide) (ok_int rfl (vl rfl) (vl rfl) rfl) ?_
   refine Ch.op rfl rfl (by decide) (ok_assign rfl (vl rfl)) ?_
   refine Ch.nil ?_
   refine Fin.go ?_
   refine Tr.cond rfl (fun h3 => ?_) (fun h3 => ?_)
   ·
    have q3 := Nrm.nrm h3
    refine Tr.seq ?_
    refine Tr.reg0 ?_
    refine Ch.op rfl rfl (by decide) (ok_move rfl (vl rfl)) ?_
    refine Ch.op rfl rfl (by decide) (ok_assign rfl (vl rfl)) ?_
    refine Ch.op rfl rfl (by decide) (ok_assign rfl (vl rfl)) ?_
    refine Ch.nil ?_
    refine Fin.go ?_
    refine Tr.ret ?_
    refine Fin.block_ret ?_
    refine Fin.retY2 [] rfl (RVal.tmp rfl (Pr.le_refl _)) (RVal.tmp rfl (Pr.le_refl _)) ?_
    · exact ex_in (_, _) (fact_in ⟨by omega, by omega⟩ (Pr.le_refl _))
   ·
    have q3 := Nrm.nrm h3
    refine Tr.seq ?_
    refine Tr.reg0 ?_
    refine Ch.op rfl rfl (by decide) (ok_int rfl (vl rfl) (vl rfl) rfl) ?_
    refine Ch.op rfl rfl (by decide) (ok_assign rfl (vl rfl)) ?_
    refine Ch.nil ?_
    refine Fin.go ?_
    refine Tr.cond rfl (fun h4 => ?_) (fun h4 => ?_)
    ·
     have q4 := Nrm.nrm h4
     refine Tr.seq ?_
     refine Tr.reg0 ?_
     refine Ch.op rfl rfl (by decide) (ok_move rfl (vl rfl)) ?_
     refine Ch.op rfl rfl (by decide) (ok_assign rfl (vl rfl)) ?_
     refine Ch.op rfl rfl (by decide) (ok_assign rfl (vl rfl)) ?_
     refine Ch.nil ?_
     refine Fin.go ?_
     refine Tr.ret ?_
     refine Fin.block_ret ?_
     refine Fin.retY2 [] rfl (RVal.tmp rfl (Pr.le_refl _)) (RVal.tmp rfl (Pr.le_refl _)) ?_
     · exact ex_in (_, _) (fact_in ⟨by omega, by omega⟩ (Pr.le_refl _))
    ·
     have q4 := Nrm.nrm h4
     refine Tr.seq ?_
     refine Tr.reg0 ?_
     refine Ch.op rfl rfl (by decide) (ok_move rfl (vl rfl)) ?_
     refine Ch.op rfl rfl (by decide) (ok_assign rfl (vl rfl)) ?_
     refine Ch.op rfl rfl (by decide) (ok_assign rfl (vl rfl)) ?_
     refine Ch.nil ?_
     refine Fin.go ?_
     refine Tr.ret ?_
     refine Fin.block_ret ?_
     refine Fin.retY2 [] rfl (RVal.tmp rfl (Pr.le_refl _)) (RVal.tmp rfl (Pr.le_refl _)) ?_
     · exact ex_in (_, _) (fact_in ⟨by omega, by omega⟩ (Pr.le_refl _))
 ·
  have q1 := Nrm.nrm h1
  refine Tr.skip ?_
  refine Fin.go ?_
  refine Tr.seq ?_
  refine Tr.leC 0 [anyK .i64] rfl ⟨is_anyK _ _, trivial⟩ ?_
  refine Tr.reg0 ?_
  refine Ch.op rfl rfl (by decide) (ok_rd 0 rfl (rd_load1 rfl one3 (vl rfl) rfl)) ?_
  refine Ch.nil ?_
  refine Fin.go ?_
  refine Tr.drop 0 ?_
  refine Tr.block ?_
  refine Tr.seq ?_
  refine Tr.ex 55 rfl fun sw => ?_
  refine Tr.reg0 ?_
  refine Ch.op rfl rfl (by decide) (ok_int rfl (vl rfl) (vl rfl) rfl) ?_
  refine Ch.op rfl rfl (by decide) (ok_assign rfl (vl rfl)) ?_
  refine Ch.nil ?_
  refine Fin.go ?_
  refine Tr.cond rfl (fun h5 => ?_) (fun h5 => ?_)
  ·
   have q5 := Nrm.nrm h5
   refine Tr.seq ?_
   refine Tr.reg0 ?_
   refine Ch.op rfl rfl (by decide) (ok_move rfl (vl rfl)) ?_
   refine Ch.op rfl rfl (by decide) (ok_assign rfl (vl rfl)) ?_
   refine Ch.op rfl rfl (by decide) (ok_assign rfl (vl rfl)) ?_
   refine Ch.nil ?_
   refine Fin.go ?_
   refine Tr.weak [(8, _), (9, _)] ⟨⟨_, rfl, Pr.le_refl _⟩, ⟨_, rfl, Pr.le_refl _⟩, trivial⟩ ?_
   refine Tr.ret ?_
   refine Fin.block_ret ?_
   refine Fin.retY2 [] rfl (RVal.tmp rfl (Pr.le_refl _)) (RVal.tmp rfl (Pr.le_refl _)) ?_
   · exact ex_in (_, _) (fact_in ⟨by omega, by omega⟩ (Pr.le_refl _))
  ·
   have q5 := Nrm.nrm h5
   refine Tr.seq ?_
   refine Tr.reg0 ?_
   refine Ch.op rfl rfl (by decide) (ok_int rfl (vl rfl) (vl rfl) rfl) ?_
   refine Ch.op rfl rfl (by decide) (ok_assign rfl (vl rfl)) ?_
   refine Ch.nil ?_
   refine Fin.go ?_
   refine Tr.weak [(13, _), (60, _)] ⟨⟨_, rfl, Pr.le_refl _⟩, ⟨_, rfl, Pr.le_refl _⟩, trivial⟩ ?_
   refine Tr.cond rfl (fun h6 => ?_) (fun h6 => ?_)
   ·
    have q6 := Nrm.nrm h6
    refine Tr.seq ?_
    refine Tr.reg0 ?_
    refine Ch.op rfl rfl (by decide) (ok_move rfl (vl rfl)) ?_
    refine Ch.op rfl rfl (by decide) (ok_assign rfl (vl rfl)) ?_
    refine Ch.op rfl rfl (by decide) (ok_assign rfl (vl rfl)) ?_
    refine Ch.nil ?_
    refine Fin.go ?_
    refine Tr.ret ?_
    refine Fin.block_ret ?_
    refine Fin.retY2 [] rfl (RVal.tmp rfl (Pr.le_refl _)) (RVal.tmp rfl (Pr.le_refl _)) ?_
    · exact ex_in (_, _) (fact_in ⟨by omega, by omega⟩ (Pr.le_refl _))
   ·
    have q6 := Nrm.nrm h6
    refine Tr.seq ?_
    refine Tr.reg0 ?_
    refine Ch.op rfl rfl (by decide) (ok_move rfl (vl rfl)) ?_
    refine Ch.op rfl rfl (by decide) (ok_assign rfl (vl rfl)) ?_
    refine Ch.op rfl rfl (by decide) (ok_assign rfl (vl rfl)) ?_
    refine Ch.nil ?_
    refine Fin.go ?_
    refine Tr.ret ?_
    refine Fin.block_ret ?_
    refine Fin.retY2 [] rfl (RVal.tmp rfl (Pr.le_refl _)) (RVal.tmp rfl (Pr.le_refl _)) ?_
    · exact ex_in (_, _) (fact_in ⟨by omega, by omega⟩ (Pr.le_refl _))
set_option maxRecDepth 20000 in
theorem w_sbrkF {l : List Fct} {c : Fct × Fct → Int} {b0 cap len : Nat} {sp : List Value} {a b : Int} (hln : l.length = len) (hll : len ≤ 1000000) (h0 : 0 ≤ a) (hab : a ≤ b) (hb : b ≤ len) (hb5 : b < 50) : FunM Tryz.prog 107 [is (.slice (some ⟨b0, 0, none⟩) len cap), int a, int b, clo Tryz.prog (fun x : Fct × Fct => [agg (rowFc x.1), agg (rowFc x.2)]) (fun x => int (c x))] (unit_) (cellsRes true b0 40 ((l.map rowFc).flatten ++ sp.map is)) (fun _ => relRes b0 40 rowFc (PermL a b l) (sp.map is)) := by
 refine FunM.of Tryz.func107 rfl rfl (by exact Nat.le_of_ble_eq_true rfl) fun M0 w0 S rs M1 w1 => ?_
 have hq := quart (n := b - a) (by omega) (by omega)
 obtain ⟨hq1, hq2, hq3⟩ := hq
 refine Tr.seq ?_
 refine Tr.reg0 ?_
 refine Ch.op rfl rfl (by decide) (ok_move rfl (vl rfl)) ?_
 refine Ch.op rfl rfl (by decide) (ok_move rfl (vl rfl)) ?_
 first
  | (refine Ch.op rfl rfl (by decide) (ok_sub rfl (vl rfl) (vl rfl) ?hin) ?_; case hin => unfold InI; omega)
  | refine Ch.op rfl rfl (by decide) (ok_int rfl (vl rfl) (vl rfl) rfl) ?_
 refine Ch.op rfl rfl (by decide) (ok_assign rfl (vl rfl)) ?_
 refine Ch.nil ?_
 refine Fin.go ?_
 refine Tr.seq ?_
 refine Tr.reg0 ?_
 refine Ch.op rfl rfl (by decide) (ok_move rfl (vl rfl)) ?_
 refine Ch.op rfl rfl (by decide) (ok_int rfl (vl rfl) (vl rfl) rfl) ?_
 refine Ch.nil ?_
 refine Fin.go ?_
 refine Tr.cond rfl (fun h1 => ?_) (fun h1 => ?_)
 ·
  have q1 := Nrm.nrm h1
  refine Tr.seq ?_
  refine Tr.regT ?_
  refine TO.op rfl rfl (by decide) (ok_move rfl (vl rfl)) ?_
  first
   | refine TO.op rfl rfl (by decide) (ok_convI rfl Tryz.underlying3 Tryz.underlying151 (vl rfl) (by unfold InI; omega)) ?_
   | refine TO.op rfl rfl (by decide) (ok_conv rfl Tryz.underlying3 Tryz.underlying151 (vl rfl)) ?_
  refine TO.alloc rfl rfl (by decide) rfl z151 zo151 (fun b1 => ?_)
  refine TO.store_all 0 rfl rfl rfl (vl rfl) (VL.le (vl rfl) (one_cellsP _)) rfl sz151 rfl rfl ?_
  refine TO.nil ?_
  refine Fin.go ?_
  refine Tr.seq ?_
  refine Tr.leC 0 [anyK .u64] rfl ⟨is_anyK _ _, trivial⟩ ?_
  refine Tr.regT ?_
  refine TO.op rfl rfl (by decide) (ok_move rfl (vl rfl)) ?_
  refine TO.op rfl rfl (by decide) (ok_call rfl (w_npow (by omega) (by omega)) ⟨⟨_, rfl, Pr.le_refl _⟩, trivial⟩) ?_
  refine TO.ex 21 rfl (fun md => TO.fact 21 rfl fun hmd => ?_)
  obtain ⟨hmd1, hmd2⟩ := hmd
  have hwm : IntKind.u64.wrap (md - 1) = md - 1 := IntWalk.u64_in _ ⟨by omega, by omega⟩
  refine TO.op rfl rfl (by decide) (ok_assign rfl (vl rfl)) ?_
  refine TO.nil ?_
  refine Fin.go ?_
  refine Tr.seq ?_
  refine Tr.reg0 ?_
  refine Ch.op rfl rfl (by decide) (ok_move rfl (vl rfl)) ?_
  refine Ch.op rfl rfl (by decide) (ok_move rfl (vl rfl)) ?_
  refine Ch.op rfl rfl (by decide) (ok_quo rfl (vl rfl) (vl rfl) (by omega)) ?_
  first
   | (refine Ch.op rfl rfl (by decide) (ok_mul rfl (vl rfl) (vl rfl) ?hin) ?_; case hin => unfold InI; omega)
   | refine Ch.op rfl rfl (by decide) (ok_int rfl (vl rfl) (vl rfl) rfl) ?_
  first
   | (refine Ch.op rfl rfl (by decide) (ok_add rfl (vl rfl) (vl rfl) ?hin) ?_; case hin => unfold InI; omega)
   | refine Ch.op rfl rfl (by decide) (ok_int rfl (vl rfl) (vl rfl) rfl) ?_
  first
   | (refine Ch.op rfl rfl (by decide) (ok_sub rfl (vl rfl) (vl rfl) ?hin) ?_; case hin => unfold InI; omega)
   | refine Ch.op rfl rfl (by decide) (ok_int rfl (vl rfl) (vl rfl) rfl) ?_
  refine Ch.op rfl rfl (by decide) (ok_assign rfl (vl rfl)) ?_
  refine Ch.nil ?_
  refine Fin.go ?_
  refine Tr.weak [(0, _), (1, _), (8, _), (9, _), (10, _), (11, _)] ⟨⟨_, rfl, Pr.le_refl _⟩, ⟨_, rfl, Pr.le_refl _⟩, ⟨_, rfl, Pr.le_refl _⟩, ⟨_, rfl, Pr.le_refl _⟩, ⟨_, rfl, Pr.le_refl _⟩, ⟨_, rfl, Pr.le_refl _⟩, trivial⟩ ?_
  refine Tr.block ?_
  refine Tr.loopD2V0 [(0, _), (1, _), (8, _), (9, _), (10, _)] ⟨⟨_, rfl, Pr.le_refl _⟩, ⟨_, rfl, Pr.le_refl _⟩, ⟨_, rfl, Pr.le_refl _⟩, ⟨_, rfl, Pr.le_refl _⟩, ⟨_, rfl, Pr.le_refl _⟩, trivial⟩ (fun (i : Int) (st : List Fct) => [(11, int i)]) (fun (i : Int) (st : List Fct) => Hp M0 w0 S (cellsRes true b1 151 [anyK .u64] :: cellsRes true b0 40 ((st.map rowFc).flatten ++ sp.map is) :: extRes M1 w1 :: rs)) (fun (i : Int) (st : List Fct) => (a ≤ i ∧ i ≤ b) ∧ st.length = len ∧ PermL a b l st) (fun (i : Int) (st : List Fct) => (b - i).toNat) (a + IntKind.i64.wrap ((b - a).tdiv 4) * 2 - 1) (l)  (⟨⟨by omega, by omega⟩, by omega, PermL.refl _ _ _⟩) ⟨⟨_, rfl, Pr.le_refl _⟩, trivial⟩ (fun _ _ h => h) ?_
  rintro i st  ⟨⟨hi1, hi2⟩, hsl, hso⟩
  refine Tr.seq ?_
  refine Tr.seq ?_
  refine Tr.reg0 ?_
  refine Ch.op rfl rfl (by decide) (ok_move rfl (vl rfl)) ?_
  refine Ch.op rfl rfl (by decide) (ok_move rfl (vl rfl)) ?_
  refine Ch.op rfl rfl (by decide) (ok_move rfl (vl rfl)) ?_
  refine Ch.op rfl rfl (by decide) (ok_quo rfl (vl rfl) (vl rfl) (by omega)) ?_
  first
   | (refine Ch.op rfl rfl (by decide) (ok_mul rfl (vl rfl) (vl rfl) ?hin) ?_; case hin => unfold InI; omega)
   | refine Ch.op rfl rfl (by decide) (ok_int rfl (vl rfl) (vl rfl) rfl) ?_
  first
   | (refine Ch.op rfl rfl (by decide) (ok_add rfl (vl rfl) (vl rfl) ?hin) ?_; case hin => unfold InI; omega)
   | refine Ch.op rfl rfl (by decide) (ok_int rfl (vl rfl) (vl rfl) rfl) ?_
  first
   | (refine Ch.op rfl rfl (by decide) (ok_add rfl (vl rfl) (vl rfl) ?hin) ?_; case hin => unfold InI; omega)
   | refine Ch.op rfl rfl (by decide) (ok_int rfl (vl rfl) (vl rfl) rfl) ?_
  refine Ch.op rfl rfl (by decide) (ok_int rfl (vl rfl) (vl rfl) rfl) ?_
  refine Ch.nil ?_
  refine Fin.go ?_
  refine Tr.weak [(0, _), (1, _), (8, _), (9, _), (10, _), (11, _), (35, _)] ⟨⟨_, rfl, Pr.le_refl _⟩, ⟨_, rfl, Pr.le_refl _⟩, ⟨_, rfl, Pr.le_refl _⟩, ⟨_, rfl, Pr.le_refl _⟩, ⟨_, rfl, Pr.le_refl _⟩, ⟨_, rfl, Pr.le_refl _⟩, ⟨_, rfl, Pr.le_refl _⟩, trivial⟩ ?_
  refine Tr.cond rfl (fun h2 => ?_) (fun h2 => ?_)
  ·
   have q2 := Nrm.nrm h2
   have := h2
   refine Tr.skip ?_
   refine Fin.go ?_
   refine Tr.seq ?_
   refine Tr.block ?_
   refine Tr.seq ?_
   refine Tr.regT ?_
   refine TO.efc 0 rfl rfl (by decide) (ef_callc rfl rfl (by decide) rfl (w_xnext) ⟨⟨_, rfl, Pr.le_refl _⟩, trivial⟩) ?_
   refine TO.op rfl rfl (by decide) (ok_move rfl (vl rfl)) ?_
   first
    | (refine TO.op rfl rfl (by decide) (ok_sub rfl (vl rfl) (vl rfl) ?hin) ?_; case hin => unfold InI; omega)
    | refine TO.op rfl rfl (by decide) (ok_int rfl (vl rfl) (vl rfl) rfl) ?_
   refine TO.op rfl rfl (by decide) (ok_andle rfl (vl rfl) (vl rfl) (by omega) (by omega)) ?_
   
   refine TO.ex 41 rfl (fun z1 => TO.fact 41 rfl fun hz1 => ?_)
   first
    | refine TO.op rfl rfl (by decide) (ok_convI rfl Tryz.underlying105 Tryz.underlying3 (vl rfl) (by unfold InI; omega)) ?_
    | refine TO.op rfl rfl (by decide) (ok_conv rfl Tryz.underlying105 Tryz.underlying3 (vl rfl)) ?_
   refine TO.op rfl rfl (by decide) (ok_assign rfl (vl rfl)) ?_
   refine TO.nil ?_
   refine Fin.go ?_
   refine Tr.cutD1V0 [(0, _), (1, _), (8, _), (9, _), (10, _), (11, _)] ⟨⟨_, rfl, Pr.le_refl _⟩, ⟨_, rfl, Pr.le_refl _⟩, ⟨_, rfl, Pr.le_refl _⟩, ⟨_, rfl, Pr.le_refl _⟩, ⟨_, rfl, Pr.le_refl _⟩, ⟨_, rfl, Pr.le_refl _⟩, trivial⟩ (fun (ot : Int) => [(12, int ot)]) (fun (ot : Int) => Hp M0 w0 S (cellsRes true b1 151 [anyK .u64] :: cellsRes true b0 40 ((st.map rowFc).flatten ++ sp.map is) :: extRes M1 w1 :: rs)) (fun (ot : Int) => 0 ≤ ot ∧ ot < b - a) ?_ ?_
   ·
    refine Tr.seq ?_
    refine Tr.reg0 ?_
    refine Ch.op rfl rfl (by decide) (ok_move rfl (vl rfl)) ?_
    refine Ch.op rfl rfl (by decide) (ok_move rfl (vl rfl)) ?_
    refine Ch.op rfl rfl (by decide) (ok_int rfl (vl rfl) (vl rfl) rfl) ?_
    refine Ch.nil ?_
    refine Fin.go ?_
    refine Tr.weak [(0, _), (1, _), (8, _), (9, _), (10, _), (11, _), (12, _), (45, _)] ⟨⟨_, rfl, Pr.le_refl _⟩, ⟨_, rfl, Pr.le_refl _⟩, ⟨_, rfl, Pr.le_refl _⟩, ⟨_, rfl, Pr.le_refl _⟩, ⟨_, rfl, Pr.le_refl _⟩, ⟨_, rfl, Pr.le_refl _⟩, ⟨_, rfl, Pr.le_refl _⟩, ⟨_, rfl, Pr.le_refl _⟩, trivial⟩ ?_
    refine Tr.cond rfl (fun h3 => ?_) (fun h3 => ?_)
    ·
     have q3 := Nrm.nrm h3
     refine Tr.reg0 ?_
     refine Ch.op rfl rfl (by decide) (ok_move rfl (vl rfl)) ?_
     refine Ch.op rfl rfl (by decide) (ok_move rfl (vl rfl)) ?_
     first
      | (refine Ch.op rfl rfl (by decide) (ok_sub rfl (vl rfl) (vl rfl) ?hin) ?_; case hin => unfold InI; omega)
      | refine Ch.op rfl rfl (by decide) (ok_int rfl (vl rfl) (vl rfl) rfl) ?_
     refine Ch.op rfl rfl (by decide) (ok_assign rfl (vl rfl)) ?_
     refine Ch.nil ?_
     exact Fin.famD1V0 (_)  (⟨by omega, by omega⟩) ⟨⟨_, rfl, Pr.le_refl _⟩, ⟨_, rfl, Pr.le_refl _⟩, ⟨_, rfl, Pr.le_refl _⟩, ⟨_, rfl, Pr.le_refl _⟩, ⟨_, rfl, Pr.le_refl _⟩, ⟨_, rfl, Pr.le_refl _⟩, ⟨_, rfl, Pr.le_refl _⟩, trivial⟩ (fun _ _ h => h)
    ·
     have q3 := Nrm.nrm h3
     refine Tr.skip ?_
     exact Fin.famD1V0 (_)  (⟨by omega, by omega⟩) ⟨⟨_, rfl, Pr.le_refl _⟩, ⟨_, rfl, Pr.le_refl _⟩, ⟨_, rfl, Pr.le_refl _⟩, ⟨_, rfl, Pr.le_refl _⟩, ⟨_, rfl, Pr.le_refl _⟩, ⟨_, rfl, Pr.le_refl _⟩, ⟨_, rfl, Pr.le_refl _⟩, trivial⟩ (fun _ _ h => h)
   ·
    rintro ot  ⟨hot1, hot2⟩
    refine Tr.regX mixed [none, none, none, none, none, none, none, none, none, none, none, some (0, 1, false, 0), none, none, none, some (0, 1, false, 0), none, some (0, 1, true, 0), none, some (0, 1, true, 0)] (by kernel_rfl) ?_
    refine Cx.op rfl rfl (by decide) (fun _ => ok_move rfl (vl rfl)) ?_
    refine Cx.op rfl rfl (by decide) (fun _ => ok_move rfl (vl rfl)) ?_
    refine Cx.op rfl rfl (by decide) (fun _ => ok_move rfl (vl rfl)) ?_
    refine Cx.op rfl rfl (by decide) (fun _ => ok_move rfl (vl rfl)) ?_
    refine Cx.op rfl rfl (by decide) (fun _ => ok_move rfl (vl rfl)) ?_
    first
     | (refine Cx.op rfl rfl (by decide) (fun _ => ok_add rfl (vl rfl) (vl rfl) ?hin) ?_; case hin => unfold InI; omega)
     | refine Cx.op rfl rfl (by decide) (fun _ => ok_int rfl (vl rfl) (vl rfl) rfl) ?_
    refine Cx.op rfl rfl (by decide) (fun _ => ok_move rfl (vl rfl)) ?_
    refine Cx.op rfl rfl (by decide) (fun _ => ok_move rfl (vl rfl)) ?_
    refine Cx.op rfl rfl (by decide) (fun _ => ok_move rfl (vl rfl)) ?_
    first
     | (refine Cx.op rfl rfl (by decide) (fun _ => ok_add rfl (vl rfl) (vl rfl) ?hin) ?_; case hin => unfold InI; omega)
     | refine Cx.op rfl rfl (by decide) (fun _ => ok_int rfl (vl rfl) (vl rfl) rfl) ?_
    refine Cx.op rfl rfl (by decide) (fun _ => okp_indexSl rfl Tryz.underlying29 sz40 (vl rfl) (vl rfl) (by omega) (by omega)) ?_
    refine Cx.rd 1 rfl rfl rfl (by decide) (rd_loadA rfl agg40 sz40 (vl rfl) (cells_atG (f := rowFc) (fun _ => rfl) (by omega)) rfl) ?_
    refine Cx.op rfl rfl (by decide) (fun _ => ok_move rfl (vl rfl)) ?_
    refine Cx.op rfl rfl (by decide) (fun _ => ok_move rfl (vl rfl)) ?_
    refine Cx.op rfl rfl (by decide) (fun _ => okp_indexSl rfl Tryz.underlying29 sz40 (vl rfl) (vl rfl) (by omega) (by omega)) ?_
    refine Cx.rd 1 rfl rfl rfl (by decide) (rd_loadA rfl agg40 sz40 (vl rfl) (cells_atG (f := rowFc) (fun _ => rfl) (by omega)) rfl) ?_
    refine Cx.op rfl rfl (by decide) (fun _ => okp_indexSl rfl Tryz.underlying29 sz40 (vl rfl) (vl rfl) (by omega) (by omega)) ?_
    refine Cx.ef0 1 rfl rfl (ef_store rfl rfl (vl rfl) (VL.le (vl rfl) (agg_cellsP _)) sz40 rfl (by rw [cells_len (sz := 8) (fun _ => rfl)]; first | omega | (simp only [List.length_set]; omega)) (cells_setG (f := rowFc) (fun _ => rfl) (by first | omega | (simp only [List.length_set]; omega)))) ?_
    refine Cx.op rfl rfl (by decide) (fun _ => okp_indexSl rfl Tryz.underlying29 sz40 (vl rfl) (vl rfl) (by omega) (by omega)) ?_
    refine Cx.ef0 1 rfl rfl (ef_store rfl rfl (vl rfl) (VL.le (vl rfl) (agg_cellsP _)) sz40 rfl (by rw [cells_len (sz := 8) (fun _ => rfl)]; first | omega | (simp only [List.length_set]; omega)) (cells_setG (f := rowFc) (fun _ => rfl) (by first | omega | (simp only [List.length_set]; omega)))) ?_
    refine Cx.nil ⟨rfl, ?_⟩
    refine FinX.done (AllC.cons (AllC.cons (AllC.cons (AllC.map _)))) ?_
    refine Fin.block ?_
    refine Fin.go ?_
    refine Tr.weak [(0, _), (1, _), (8, _), (9, _), (10, _), (11, _)] ⟨⟨_, rfl, Pr.le_refl _⟩, ⟨_, rfl, Pr.le_refl _⟩, ⟨_, rfl, Pr.le_refl _⟩, ⟨_, rfl, Pr.le_refl _⟩, ⟨_, rfl, Pr.le_refl _⟩, ⟨_, rfl, Pr.le_refl _⟩, trivial⟩ ?_
    refine Tr.reg0 ?_
    refine Ch.op rfl rfl (by decide) (ok_move rfl (vl rfl)) ?_
    first
     | (refine Ch.op rfl rfl (by decide) (ok_add rfl (vl rfl) (vl rfl) ?hin) ?_; case hin => unfold InI; omega)
     | refine Ch.op rfl rfl (by decide) (ok_int rfl (vl rfl) (vl rfl) rfl) ?_
    refine Ch.op rfl rfl (by decide) (ok_assign rfl (vl rfl)) ?_
    refine Ch.nil ?_
    exact Fin.famD2V0 (i + 1) (_)  (⟨⟨⟨by omega, by omega⟩, by simp only [List.length_set]; exact hsl, hso.swap (by omega) (by omega) (by omega) (by omega) (by omega) (by omega) (by omega)⟩, by omega⟩) ⟨⟨_, rfl, Pr.le_refl _⟩, ⟨_, rfl, Pr.le_refl _⟩, ⟨_, rfl, Pr.le_refl _⟩, ⟨_, rfl, Pr.le_refl _⟩, ⟨_, rfl, Pr.le_refl _⟩, ⟨_, rfl, Pr.le_refl _⟩, trivial⟩ (fun _ _ h => h)
  ·
   have q2 := Nrm.nrm h2
   have := h2
   refine Tr.exit ?_
   refine Fin.then_exit ?_
   refine Fin.then_exit ?_
   refine Fin.block_here ?_
   refine Fin.closeL (PermL a b l) 1 rfl (by first | exact hso | exact PermL.refl _ _ _) ?_
   refine Fin.drop 0 ?_
   exact Fin.retM0 rfl
 ·
  have q1 := Nrm.nrm h1
  refine Tr.skip ?_
  refine Fin.closeL (PermL a b l) 0 rfl (by first | exact hso | exact PermL.refl _ _ _) ?_
  exact Fin.retM0 rfl
end Go.Proofs.YthmnoekgicggnaaGreat
namespace Cp
open Go Go.RowKit Go.Great
section
variable {P : Program} {n : Nat} {E : Env} {M0 : Av} {w0 : World} {S : Nat → Prop} {rs : List Res} {β : Type} {e : TypeId} {sz : Nat} {f : β → List Pr} {Φ : List β → Prop} {v : Value}
def ownRel (e : TypeId) (sz : Nat) (f : β → List Pr) (Φ : List β → Prop) (v : Value) : Res where
  blk := match v with | .slice (some a) _ _ => some a.block | _ => none
  new := true
  h M w := ∃ st : List β, Φ st ∧ (ownRes e sz (st.map f) v).h M w
  st M w M' w' he hk h := let ⟨st, h1, h2⟩ := h; ⟨st, h1, (ownRes e sz (st.map f) v).st M w M' w' he hk h2⟩
theorem FunM.own_rel {g : FuncId} {l : List β} {ps : List Pr} {res : Pr} [Free res] (h0 : l = [] → Fun P g (is (.slice none 0 0) :: ps) res ∧ Φ [])
    (h1 : ∀ (b cap : Nat) (sp : List Value), FunM P g (is (.slice (some ⟨b, 0, none⟩) l.length cap) :: ps) res (cellsRes true b e ((l.map f).flatten ++ sp.map is)) (fun _ => relRes b e f Φ (sp.map is)))
    (hl : ∀ st, Φ st → st.length = l.length) (hE : Entry P g) : FunM P g (is v :: ps) res (ownRes e sz (l.map f) v) (fun _ => ownRel e sz f Φ v) := by
  refine ⟨hE, fun M0 w0 S rs M w vs hI hv => ?_⟩
  have hb0 := hI.hold _ (List.mem_cons_self ..)
  rcases hb0.1 with ⟨hnil, rfl⟩ | hmut
  · have hln : l = [] := by simpa using hnil
    obtain ⟨h01, h02⟩ := h0 hln
    refine (h01.2 M w vs hI.bd hv).mono ?_
    rintro e' w' ⟨u, rfl, h2, h3⟩
    have hI' : HpH M0 w0 S (ownRes e sz (l.map f) (.slice none 0 0) :: rs) M w' := (Hp M0 w0 S _).st _ _ _ h3 hI
    exact ⟨u, M, rfl, Free.free _ _ _ _ h2, Ext.below h3, hI'.swap1 (i := 0) rfl rfl rfl ⟨[], h02, .inl ⟨rfl, rfl⟩⟩⟩
  · obtain ⟨b, cap, spare, rfl, hnc, hcm, hsp, hcr⟩ := hmut
    have hC := hI.swap1 (i := 0) (r' := cellsRes true b e ((l.map f).flatten ++ spare.map is)) rfl rfl rfl hcr
    have hlm : (l.map f).length = l.length := List.length_map ..
    rw [hlm] at hv
    refine ((h1 b cap spare).2 M0 w0 S rs M w vs hC hv).mono ?_
    rintro e' w' ⟨u, M', rfl, h2, h3, h4⟩
    refine ⟨u, M', rfl, h2, h3, ?_⟩
    obtain ⟨st, hp, hst⟩ := (h4.hold _ (List.mem_cons_self ..)).1
    have hlen : (st.map f).length = (l.map f).length := by rw [List.length_map, List.length_map, hl st hp]
    exact h4.swap1 (i := 0) rfl rfl rfl ⟨st, hp, .inr ⟨b, cap, spare, by rw [hlen], by rw [hlen]; exact hnc, hcm, by rw [hlen]; exact hsp, hst⟩⟩
theorem St.frzL (j d : Nat) {p : Pr} (hj : rs[j]? = some (ownRel e sz f Φ v)) (hd : E.lookup d = some (andIs v p)) (hf : ∀ x, (f x).length = sz) {a : Act} {w : World} (hs : St n E (Hp M0 w0 S rs) a w) :
    ∃ st : List β, Φ st ∧ St n ((d, andIs v (slice sz (st.map f))) :: E) (Hp M0 w0 S (rs.set j (appRes e sz v))) a w := by
  obtain ⟨M, h1, h2, h3, h4⟩ := hs
  have h4 : HpH M0 w0 S rs M w := h4
  have hjl : j < rs.length := by rcases Nat.lt_or_ge j rs.length with h | h; exact h; rw [List.getElem?_eq_none h] at hj; cases hj
  obtain ⟨st, hp, hst⟩ := (h4.hold _ (List.mem_of_getElem? hj)).1
  have h5 := h4.swap1 (r' := ownRes e sz (st.map f) v) hj rfl rfl hst
  obtain ⟨M', h6, h7, h8⟩ := HpH.frzO h5 (List.getElem?_set_self hjl) (map_rows hf)
  rw [List.set_set] at h7
  refine ⟨st, hp, M', h1, h2, fun s q hq => ?_, h7⟩
  simp only [List.lookup] at hq
  split at hq
  · rename_i e1
    have : s = d := by simpa using e1
    subst this
    simp only [Option.some.injEq] at hq
    subst hq
    have h9 := (h3 _ _ hd).1
    exact ⟨h9, by rw [h9]; exact h8⟩
  · exact q.st _ _ _ _ _ h6 (h3 s q hq)
theorem TO.frzL {Q : Exit → Act → World → Prop} {ops : Array Oper} {r : List Oper} (j d : Nat) {p : Pr} (hj : rs[j]? = some (ownRel e sz f Φ v)) (hd : E.lookup d = some (andIs v p)) (hf : ∀ x, (f x).length = sz)
    (k : ∀ st : List β, Φ st → TO P n ops r ((d, andIs v (slice sz (st.map f))) :: E) (Hp M0 w0 S (rs.set j (appRes e sz v))) Q) : TO P n ops r E (Hp M0 w0 S rs) Q :=
  fun m hl a w hs => let ⟨st, h1, h2⟩ := hs.frzL j d hj hd hf; k st h1 m hl a w h2
theorem Tr.frzL {Q : Exit → Act → World → Prop} {c : Code} (j d : Nat) {p : Pr} (hj : rs[j]? = some (ownRel e sz f Φ v)) (hd : E.lookup d = some (andIs v p)) (hf : ∀ x, (f x).length = sz)
    (k : ∀ st : List β, Φ st → Tr P n ((d, andIs v (slice sz (st.map f))) :: E) (Hp M0 w0 S (rs.set j (appRes e sz v))) c Q) : Tr P n E (Hp M0 w0 S rs) c Q :=
  fun a w hs => let ⟨st, h1, h2⟩ := hs.frzL j d hj hd hf; k st h1 a w h2
theorem own_cast {rows rows' : List (List Pr)} (h : rows = rows') {M : Av} {w : World} (k : (Hp M0 w0 S (ownRes e sz rows v :: rs)).h M w) : (Hp M0 w0 S (ownRes e sz rows' v :: rs)).h M w := by subst h; exact k
theorem lens_nil {rows : List (List Pr)} (h : rows = []) : Pr.le (is (.slice none 0 0)) (andIs (.slice none 0 0) (lens rows.length)) := by
  subst h; exact fun _ _ _ hv => ⟨hv, ⟨none, 0, by rw [hv]; rfl⟩⟩
theorem lens_le {v : Value} {a b : Nat} (h : a = b) : Pr.le (andIs v (lens a)) (andIs v (lens b)) := by subst h; exact Pr.le_refl _
end
end Cp
namespace Go.Proofs.YthmnoekgicggnaaGreat
open Go Go.RowKit Cp
set_option maxRecDepth 20000 in
theorem w_spdq0F {l : List Fct} {c : Fct × Fct → Int} {b0 cap len : Nat} {sp : List Value} {a b lim : Int} (hln : l.length = len) (hll : len ≤ 1000000) (hw : Go.Sort.SWO (ltc c)) (hc5 : len < 50) (hB : Go.Sort.Below (ltc c) a.toNat b.toNat l.toArray) (h0 : 0 ≤ a) (hab : a ≤ b) (hb : b ≤ len) (hl0 : 0 ≤ lim) (hl1 : lim ≤ 100) (m : Nat) (hm : (b - a).toNat < m) (ih : ∀ {l : List Fct} {a b lim : Int} {sp : List Value}, l.length = len → Go.Sort.Below (ltc c) a.toNat b.toNat l.toArray → 0 ≤ a → a ≤ b → b ≤ len → 0 ≤ lim → lim ≤ 100 → (b - a).toNat + 1 < m → FunM Tryz.prog 65 [is (.slice (some ⟨b0, 0, none⟩) len cap), int a, int b, int lim, clo Tryz.prog (fun x : Fct × Fct => [agg (rowFc x.1), agg (rowFc x.2)]) (fun x => int (c x))] (unit_) (cellsRes true b0 40 ((l.map rowFc).flatten ++ sp.map is)) (fun _ => relRes b0 40 rowFc (SortL c a b l) (sp.map is)))  : FunM Tryz.prog 65 [is (.slice (some ⟨b0, 0, none⟩) len cap), int a, int b, int lim, clo Tryz.prog (fun x : Fct × Fct => [agg (rowFc x.1), agg (rowFc x.2)]) (fun x => int (c x))] (unit_) (cellsRes true b0 40 ((l.map rowFc).flatten ++ sp.map is)) (fun _ => relRes b0 40 rowFc (SortL c a b l) (sp.map is)) := by
 refine FunM.of Tryz.func65 rfl rfl (by exact Nat.le_of_ble_eq_true rfl) fun M0 w0 S rs M1 w1 => ?_
 have hls : b.toNat ≤ l.toArray.size := by simp only [List.size_toArray]; omega
 refine Tr.seq ?_
 refine Tr.reg0 ?_
 refine Ch.op rfl rfl (by decide) (ok_assign rfl (vl rfl)) ?_
 refine Ch.nil ?_
 refine Fin.go ?_
 refine Tr.seq ?_
 refine Tr.reg0 ?_
 refine Ch.op rfl rfl (by decide) (ok_assign rfl (vl rfl)) ?_
 refine Ch.nil ?_
 refine Fin.go ?_
 refine Tr.block ?_
 refine Tr.loopD4V0 [(0, _), (4, _)] ⟨⟨_, rfl, Pr.le_refl _⟩, ⟨_, rfl, Pr.le_refl _⟩, trivial⟩ (fun (a1 : Int) (b1 : Int) (p : Int × Bool × Bool) (st : List Fct) => [(1, int a1), (2, int b1), (3, int p.1), (10, bool p.2.1), (11, bool p.2.2)]) (fun (a1 : Int) (b1 : Int) (p : Int × Bool × Bool) (st : List Fct) => Hp M0 w0 S (cellsRes true b0 40 ((st.map rowFc).flatten ++ sp.map is) :: extRes M1 w1 :: rs)) (fun (a1 : Int) (b1 : Int) (p : Int × Bool × Bool) (st : List Fct) => ((a ≤ a1 ∧ a1 ≤ b1 ∧ b1 ≤ b) ∧ 0 ≤ p.1 ∧ p.1 ≤ 100) ∧ st.length = len ∧ PS (ltc c) a.toNat b.toNat a1.toNat b1.toNat l.toArray st.toArray) (fun (a1 : Int) (b1 : Int) (p : Int × Bool × Bool) (st : List Fct) => (b1 - a1).toNat) (a) (b) ((lim, (true, true))) (l)  (⟨⟨⟨by omega, hab, by omega⟩, hl0, hl1⟩, hln, PS.init (by omega) hB⟩) ⟨⟨_, rfl, Pr.le_refl _⟩, ⟨_, rfl, Pr.le_refl _⟩, ⟨_, rfl, Pr.le_refl _⟩, ⟨_, rfl, Pr.le_refl _⟩, ⟨_, rfl, Pr.le_refl _⟩, trivial⟩ (fun _ _ h => h) ?_
 rintro a1 b1 p st  ⟨⟨⟨ha1, ha2, ha3⟩, hpl, hpl2⟩, hsl, hps⟩
 refine Tr.block ?_
 refine Tr.seq ?_
 refine Tr.reg0 ?_
 refine Ch.op rfl rfl (by decide) (ok_move rfl (vl rfl)) ?_
 refine Ch.op rfl rfl (by decide) (ok_move rfl (vl rfl)) ?_
 first
  | (refine Ch.op rfl rfl (by decide) (ok_sub rfl (vl rfl) (vl rfl) ?hin) ?_; case hin => unfold InI; omega)
  | refine Ch.op rfl rfl (by decide) (ok_int rfl (vl rfl) (vl rfl) rfl) ?_
 refine Ch.op rfl rfl (by decide) (ok_assign rfl (vl rfl)) ?_
 refine Ch.nil ?_
 refine Fin.go ?_
 refine Tr.seq ?_
 refine Tr.seq ?_
 refine Tr.reg0 ?_
 refine Ch.op rfl rfl (by decide) (ok_move rfl (vl rfl)) ?_
 refine Ch.op rfl rfl (by decide) (ok_int rfl (vl rfl) (vl rfl) rfl) ?_
 refine Ch.nil ?_
 refine Fin.go ?_
 refine Tr.cond rfl (fun h1 => ?_) (fun h1 => ?_)
 ·
  have q1 := Nrm.nrm h1
  refine Tr.seq ?_
  refine Tr.regT ?_
  refine TO.op rfl rfl (by decide) (ok_move rfl (vl rfl)) ?_
  refine TO.op rfl rfl (by decide) (ok_move rfl (vl rfl)) ?_
  refine TO.op rfl rfl (by decide) (ok_move rfl (vl rfl)) ?_
  refine TO.op rfl rfl (by decide) (ok_move rfl (vl rfl)) ?_
  refine TO.efc 0 rfl rfl (by decide) (ef_callc rfl rfl (by decide) rfl (w_sinsF (by first | omega | (simp only [List.length_set]; omega)) (by omega) hw (by omega) (by omega) (by omega)) ⟨⟨_, rfl, Pr.le_refl _⟩, ⟨_, rfl, Pr.le_refl _⟩, ⟨_, rfl, Pr.le_refl _⟩, ⟨_, rfl, Pr.le_refl _⟩, trivial⟩) ?_
  refine TO.openL 0 rfl fun t1 hp1 => ?_
  have hpl1 := hp1.len
  have hdone := (hps.perm hls hp1.1).done hp1.2
  refine TO.nil ?_
  refine Fin.go ?_
  refine Tr.weak [] trivial ?_
  refine Tr.ret ?_
  refine Fin.then_ret ?_
  refine Fin.block_ret ?_
  refine Fin.then_ret ?_
  refine Fin.block_ret ?_
  refine Fin.closeL (SortL c a b l) 0 rfl (hdone) ?_
  exact Fin.retM0r rfl
 ·
  have q1 := Nrm.nrm h1
  refine Tr.skip ?_
  refine Fin.go ?_
  refine Tr.seq ?_
  refine Tr.seq ?_
  refine Tr.reg0 ?_
  refine Ch.op rfl rfl (by decide) (ok_move rfl (vl rfl)) ?_
  refine Ch.op rfl rfl (by decide) (ok_int rfl (vl rfl) (vl rfl) rfl) ?_
  refine Ch.nil ?_
  refine Fin.go ?_
  refine Tr.weak [(0, _), (1, _), (2, _), (3, _), (4, _), (10, _), (11, _), (12, _), (32, _)] ⟨⟨_, rfl, Pr.le_refl _⟩, ⟨_, rfl, Pr.le_refl _⟩, ⟨_, rfl, Pr.le_refl _⟩, ⟨_, rfl, Pr.le_refl _⟩, ⟨_, rfl, Pr.le_refl _⟩, ⟨_, rfl, Pr.le_refl _⟩, ⟨_, rfl, Pr.le_refl _⟩, ⟨_, rfl, Pr.le_refl _⟩, ⟨_, rfl, Pr.le_refl _⟩, trivial⟩ ?_
  refine Tr.cond rfl (fun h2 => ?_) (fun h2 => ?_)
  ·
   have q2 := Nrm.nrm h2
   refine Tr.seq ?_
   refine Tr.regT ?_
   refine TO.op rfl rfl (by decide) (ok_move rfl (vl rfl)) ?_
   refine TO.op rfl rfl (by decide) (ok_move rfl (vl rfl)) ?_
   refine TO.op rfl rfl (by decide) (ok_move rfl (vl rfl)) ?_
   refine TO.op rfl rfl (by decide) (ok_move rfl (vl rfl)) ?_
   refine TO.efc 0 rfl rfl (by decide) (ef_callc rfl rfl (by decide) rfl (w_sheapF (by first | omega | (simp only [List.length_set]; omega)) (by omega) hw (by omega) (by omega) (by omega)) ⟨⟨_, rfl, Pr.le_refl _⟩, ⟨_, rfl, Pr.le_refl _⟩, ⟨_, rfl, Pr.le_refl _⟩, ⟨_, rfl, Pr.le_refl _⟩, trivial⟩) ?_
   refine TO.openL 0 rfl fun t2 hp2 => ?_
   have hpl2 := hp2.len
   have hdone := (hps.perm hls hp2.1).done hp2.2
   refine TO.nil ?_
   refine Fin.go ?_
   refine Tr.weak [] trivial ?_
   refine Tr.ret ?_
   refine Fin.then_ret ?_
   refine Fin.block_ret ?_
   refine Fin.then_ret ?_
   refine Fin.block_ret ?_
   refine Fin.closeL (SortL c a b l) 0 rfl (hdone) ?_
   exact Fin.retM0r rfl
  ·
   have q2 := Nrm.nrm h2
   refine Tr.skip ?_
   refine Fin.go ?_
   refine Tr.cutD2V0 [(0, _), (1, _), (2, _), (4, _), (10, _), (11, _), (12, _)] ⟨⟨_, rfl, Pr.le_refl _⟩, ⟨_, rfl, Pr.le_refl _⟩, ⟨_, rfl, Pr.le_refl _⟩, ⟨_, rfl, Pr.le_refl _⟩, ⟨_, rfl, Pr.le_refl _⟩, ⟨_, rfl, Pr.le_refl _⟩, ⟨_, rfl, Pr.le_refl _⟩, trivial⟩ (fun (lim2 : Int) (st2 : List Fct) => [(3, int lim2)]) (fun (lim2 : Int) (st2 : List Fct) => Hp M0 w0 S (cellsRes true b0 40 ((st2.map rowFc).flatten ++ sp.map is) :: extRes M1 w1 :: rs)) (fun (lim2 : Int) (st2 : List Fct) => 0 ≤ lim2 ∧ lim2 ≤ 100 ∧ st2.length = len ∧ PS (ltc c) a.toNat b.toNat a1.toNat b1.toNat l.toArray st2.toArray) ?_ ?_
   ·
    refine Tr.seq ?_
    refine Tr.reg0 ?_
    refine Ch.op rfl rfl (by decide) (ok_move rfl (vl rfl)) ?_
    refine Ch.op rfl rfl (by decide) (ok_not rfl (vl rfl)) ?_
    refine Ch.nil ?_
    refine Fin.go ?_
    refine Tr.cond rfl (fun h3 => ?_) (fun h3 => ?_)
    ·
     have q3 := Nrm.nrm h3
     refine Tr.seq ?_
     refine Tr.regT ?_
     refine TO.op rfl rfl (by decide) (ok_move rfl (vl rfl)) ?_
     refine TO.op rfl rfl (by decide) (ok_move rfl (vl rfl)) ?_
     refine TO.op rfl rfl (by decide) (ok_move rfl (vl rfl)) ?_
     refine TO.op rfl rfl (by decide) (ok_move rfl (vl rfl)) ?_
     refine TO.efc 0 rfl rfl (by decide) (ef_callc rfl rfl (by decide) rfl (w_sbrkF (by first | omega | (simp only [List.length_set]; omega)) (by omega) (by omega) (by omega) (by omega) (by omega)) ⟨⟨_, rfl, Pr.le_refl _⟩, ⟨_, rfl, Pr.le_refl _⟩, ⟨_, rfl, Pr.le_refl _⟩, ⟨_, rfl, Pr.le_refl _⟩, trivial⟩) ?_
     refine TO.openL 0 rfl fun t3 hp3 => ?_
     have hpl3 := hp3.len
     have hps := hps.perm hls hp3
     refine TO.nil ?_
     refine Fin.go ?_
     refine Tr.weak [(0, _), (1, _), (2, _), (3, _), (4, _), (10, _), (11, _), (12, _)] ⟨⟨_, rfl, Pr.le_refl _⟩, ⟨_, rfl, Pr.le_refl _⟩, ⟨_, rfl, Pr.le_refl _⟩, ⟨_, rfl, Pr.le_refl _⟩, ⟨_, rfl, Pr.le_refl _⟩, ⟨_, rfl, Pr.le_refl _⟩, ⟨_, rfl, Pr.le_refl _⟩, ⟨_, rfl, Pr.le_refl _⟩, trivial⟩ ?_
     refine Tr.reg0 ?_
     refine Ch.op rfl rfl (by decide) (ok_move rfl (vl rfl)) ?_
     first
      | (refine Ch.op rfl rfl (by decide) (ok_sub rfl (vl rfl) (vl rfl) ?hin) ?_; case hin => unfold InI; omega)
      | refine Ch.op rfl rfl (by decide) (ok_int rfl (vl rfl) (vl rfl) rfl) ?_
     refine Ch.op rfl rfl (by decide) (ok_assign rfl (vl rfl)) ?_
     refine Ch.nil ?_
     exact Fin.famD2V0 (_) (_)  (⟨by omega, by omega, by omega, hps⟩) ⟨⟨_, rfl, Pr.le_refl _⟩, ⟨_, rfl, Pr.le_refl _⟩, ⟨_, rfl, Pr.le_refl _⟩, ⟨_, rfl, Pr.le_refl _⟩, ⟨_, rfl, Pr.le_refl _⟩, ⟨_, rfl, Pr.le_refl _⟩, ⟨_, rfl, Pr.le_refl _⟩, ⟨_, rfl, Pr.le_refl _⟩, trivial⟩ (fun _ _ h => h)
    ·
     have q3 := Nrm.nrm h3
     refine Tr.skip ?_
     exact Fin.famD2V0 (_) (_)  (⟨by omega, by omega, by omega, hps⟩) ⟨⟨_, rfl, Pr.le_refl _⟩, ⟨_, rfl, Pr.le_refl _⟩, ⟨_, rfl, Pr.le_refl _⟩, ⟨_, rfl, Pr.le_refl _⟩, ⟨_, rfl, Pr.le_refl _⟩, ⟨_, rfl, Pr.le_refl _⟩, ⟨_, rfl, Pr.le_refl _⟩, ⟨_, rfl, Pr.le_refl _⟩, trivial⟩ (fun _ _ h => h)
   ·
    rintro lim2 st2  ⟨hlm2, hlm3, hsl2, hps⟩
    refine Tr.seq ?_
    refine Tr.regT ?_
    refine TO.op rfl rfl (by decide) (ok_move rfl (vl rfl)) ?_
    refine TO.op rfl rfl (by decide) (ok_move rfl (vl rfl)) ?_
    refine TO.op rfl rfl (by decide) (ok_move rfl (vl rfl)) ?_
    refine TO.op rfl rfl (by decide) (ok_move rfl (vl rfl)) ?_
    refine TO.efc 0 rfl rfl (by decide) (ef_callc rfl rfl (by decide) rfl (w_spivF (by first | omega | (simp only [List.length_set]; omega)) (by omega) (by omega) (by omega) (by omega) (by omega)) ⟨⟨_, rfl, Pr.le_refl _⟩, ⟨_, rfl, Pr.le_refl _⟩, ⟨_, rfl, Pr.le_refl _⟩, ⟨_, rfl, Pr.le_refl _⟩, trivial⟩) ?_
    refine TO.ex 52 rfl (fun z1 => TO.fact 52 rfl fun hz1 => ?_)
    obtain ⟨hpv1, hpv2⟩ := hz1
    refine TO.op rfl rfl (by decide) (ok_move rfl (vl rfl)) ?_
    refine TO.op rfl rfl (by decide) (ok_extract rfl (vl rfl) rfl) ?_
    refine TO.op rfl rfl (by decide) (ok_extract rfl (vl rfl) rfl) ?_
    refine TO.op rfl rfl (by decide) (ok_assign rfl (vl rfl)) ?_
    refine TO.op rfl rfl (by decide) (ok_assign rfl (vl rfl)) ?_
    refine TO.nil ?_
    refine Fin.go ?_
    refine Tr.weak [(0, _), (1, _), (2, _), (3, _), (4, _), (10, _), (11, _), (12, _), (13, _), (14, _)] ⟨⟨_, rfl, Pr.le_refl _⟩, ⟨_, rfl, Pr.le_refl _⟩, ⟨_, rfl, Pr.le_refl _⟩, ⟨_, rfl, Pr.le_refl _⟩, ⟨_, rfl, Pr.le_refl _⟩, ⟨_, rfl, Pr.le_refl _⟩, ⟨_, rfl, Pr.le_refl _⟩, ⟨_, rfl, Pr.le_refl _⟩, ⟨_, rfl, Pr.le_refl _⟩, ⟨_, rfl, Pr.le_refl _⟩, trivial⟩ ?_
    refine Tr.cutD3V0 [(0, _), (1, _), (2, _), (3, _), (4, _), (10, _), (11, _), (12, _)] ⟨⟨_, rfl, Pr.le_refl _⟩, ⟨_, rfl, Pr.le_refl _⟩, ⟨_, rfl, Pr.le_refl _⟩, ⟨_, rfl, Pr.le_refl _⟩, ⟨_, rfl, Pr.le_refl _⟩, ⟨_, rfl, Pr.le_refl _⟩, ⟨_, rfl, Pr.le_refl _⟩, ⟨_, rfl, Pr.le_refl _⟩, trivial⟩ (fun (pv : Int) (hint : Int) (st3 : List Fct) => [(13, int pv), (14, int hint)]) (fun (pv : Int) (hint : Int) (st3 : List Fct) => Hp M0 w0 S (cellsRes true b0 40 ((st3.map rowFc).flatten ++ sp.map is) :: extRes M1 w1 :: rs)) (fun (pv : Int) (hint : Int) (st3 : List Fct) => (a1 ≤ pv ∧ pv < b1) ∧ st3.length = len ∧ PS (ltc c) a.toNat b.toNat a1.toNat b1.toNat l.toArray st3.toArray) ?_ ?_
    ·
     refine Tr.seq ?_
     refine Tr.reg0 ?_
     refine Ch.op rfl rfl (by decide) (ok_move rfl (vl rfl)) ?_
     refine Ch.op rfl rfl (by decide) (ok_int rfl (vl rfl) (vl rfl) rfl) ?_
     refine Ch.nil ?_
     refine Fin.go ?_
     refine Tr.cond rfl (fun h4 => ?_) (fun h4 => ?_)
     ·
      have q4 := Nrm.nrm h4
      refine Tr.seq ?_
      refine Tr.regT ?_
      refine TO.op rfl rfl (by decide) (ok_move rfl (vl rfl)) ?_
      refine TO.op rfl rfl (by decide) (ok_move rfl (vl rfl)) ?_
      refine TO.op rfl rfl (by decide) (ok_move rfl (vl rfl)) ?_
      refine TO.op rfl rfl (by decide) (ok_move rfl (vl rfl)) ?_
      refine TO.efc 0 rfl rfl (by decide) (ef_callc rfl rfl (by decide) rfl (w_srevF (by first | omega | (simp only [List.length_set]; omega)) (by omega) (by omega) (by omega) (by omega)) ⟨⟨_, rfl, Pr.le_refl _⟩, ⟨_, rfl, Pr.le_refl _⟩, ⟨_, rfl, Pr.le_refl _⟩, ⟨_, rfl, Pr.le_refl _⟩, trivial⟩) ?_
      refine TO.openL 0 rfl fun t5 hp5 => ?_
      have hpl5 := hp5.len
      have hps := hps.perm hls hp5
      refine TO.nil ?_
      refine Fin.go ?_
      refine Tr.weak [(0, _), (1, _), (2, _), (3, _), (4, _), (10, _), (11, _), (12, _), (13, _)] ⟨⟨_, rfl, Pr.le_refl _⟩, ⟨_, rfl, Pr.le_refl _⟩, ⟨_, rfl, Pr.le_refl _⟩, ⟨_, rfl, Pr.le_refl _⟩, ⟨_, rfl, Pr.le_refl _⟩, ⟨_, rfl, Pr.le_refl _⟩, ⟨_, rfl, Pr.le_refl _⟩, ⟨_, rfl, Pr.le_refl _⟩, ⟨_, rfl, Pr.le_refl _⟩, trivial⟩ ?_
      refine Tr.seq ?_
      refine Tr.reg0 ?_
      refine Ch.op rfl rfl (by decide) (ok_move rfl (vl rfl)) ?_
      first
       | (refine Ch.op rfl rfl (by decide) (ok_sub rfl (vl rfl) (vl rfl) ?hin) ?_; case hin => unfold InI; omega)
       | refine Ch.op rfl rfl (by decide) (ok_int rfl (vl rfl) (vl rfl) rfl) ?_
      refine Ch.op rfl rfl (by decide) (ok_move rfl (vl rfl)) ?_
      refine Ch.op rfl rfl (by decide) (ok_move rfl (vl rfl)) ?_
      first
       | (refine Ch.op rfl rfl (by decide) (ok_sub rfl (vl rfl) (vl rfl) ?hin) ?_; case hin => unfold InI; omega)
       | refine Ch.op rfl rfl (by decide) (ok_int rfl (vl rfl) (vl rfl) rfl) ?_
      first
       | (refine Ch.op rfl rfl (by decide) (ok_sub rfl (vl rfl) (vl rfl) ?hin) ?_; case hin => unfold InI; omega)
       | refine Ch.op rfl rfl (by decide) (ok_int rfl (vl rfl) (vl rfl) rfl) ?_
      refine Ch.op rfl rfl (by decide) (ok_assign rfl (vl rfl)) ?_
      refine Ch.nil ?_
      refine Fin.go ?_
      refine Tr.weak [(0, _), (1, _), (2, _), (3, _), (4, _), (10, _), (11, _), (12, _), (13, _)] ⟨⟨_, rfl, Pr.le_refl _⟩, ⟨_, rfl, Pr.le_refl _⟩, ⟨_, rfl, Pr.le_refl _⟩, ⟨_, rfl, Pr.le_refl _⟩, ⟨_, rfl, Pr.le_refl _⟩, ⟨_, rfl, Pr.le_refl _⟩, ⟨_, rfl, Pr.le_refl _⟩, ⟨_, rfl, Pr.le_refl _⟩, ⟨_, rfl, Pr.le_refl _⟩, trivial⟩ ?_
      refine Tr.reg0 ?_
      refine Ch.op rfl rfl (by decide) (ok_assign rfl (vl rfl)) ?_
      refine Ch.nil ?_
      exact Fin.famD3V0 (_) (_) (_)  (⟨⟨by omega, by omega⟩, by omega, hps⟩) ⟨⟨_, rfl, Pr.le_refl _⟩, ⟨_, rfl, Pr.le_refl _⟩, ⟨_, rfl, Pr.le_refl _⟩, ⟨_, rfl, Pr.le_refl _⟩, ⟨_, rfl, Pr.le_refl _⟩, ⟨_, rfl, Pr.le_refl _⟩, ⟨_, rfl, Pr.le_refl _⟩, ⟨_, rfl, Pr.le_refl _⟩, ⟨_, rfl, Pr.le_refl _⟩, ⟨_, rfl, Pr.le_refl _⟩, trivial⟩ (fun _ _ h => h)
     ·
      have q4 := Nrm.nrm h4
      refine Tr.skip ?_
      exact Fin.famD3V0 (_) (_) (_)  (⟨⟨by omega, by omega⟩, by omega, hps⟩) ⟨⟨_, rfl, Pr.le_refl _⟩, ⟨_, rfl, Pr.le_refl _⟩, ⟨_, rfl, Pr.le_refl _⟩, ⟨_, rfl, Pr.le_refl _⟩, ⟨_, rfl, Pr.le_refl _⟩, ⟨_, rfl, Pr.le_refl _⟩, ⟨_, rfl, Pr.le_refl _⟩, ⟨_, rfl, Pr.le_refl _⟩, ⟨_, rfl, Pr.le_refl _⟩, ⟨_, rfl, Pr.le_refl _⟩, trivial⟩ (fun _ _ h => h)
    ·
     rintro pv hint st3  ⟨⟨hpv1, hpv2⟩, hsl3, hps⟩
     refine Tr.weak [(0, _), (1, _), (2, _), (3, _), (4, _), (10, _), (11, _), (12, _), (13, _), (14, _)] ⟨⟨_, rfl, Pr.le_refl _⟩, ⟨_, rfl, Pr.le_refl _⟩, ⟨_, rfl, Pr.le_refl _⟩, ⟨_, rfl, Pr.le_refl _⟩, ⟨_, rfl, Pr.le_refl _⟩, ⟨_, rfl, Pr.le_refl _⟩, ⟨_, rfl, Pr.le_refl _⟩, ⟨_, rfl, Pr.le_refl _⟩, ⟨_, rfl, Pr.le_refl _⟩, ⟨_, rfl, Pr.le_refl _⟩, trivial⟩ ?_
     refine Tr.cutk [0, 1, 2, 3, 4, 10, 11, 12, 13] [] (True) ?_ (fun h5 => ?_)
     ·
      refine Tr.seq ?_
      refine Tr.reg0 ?_
      refine Ch.op rfl rfl (by decide) (ok_move rfl (vl rfl)) ?_
      refine Ch.op rfl rfl (by decide) (ok_move rfl (vl rfl)) ?_
      refine Ch.cases 69 rfl (fun h6 => ?_) (fun h6 => ?_)
      ·
       have q6 := Nrm.nrm h6
       refine Ch.yes rfl rfl rfl h6 rfl (by decide) (ok_move rfl (vl rfl)) ?_
       refine Ch.op rfl rfl (by decide) (ok_pick_t rfl (vl rfl) h6 (vl rfl)) ?_
       refine Ch.op rfl rfl (by decide) (ok_move rfl (vl rfl)) ?_
       refine Ch.cases 72 rfl (fun h7 => ?_) (fun h7 => ?_)
       ·
        have q7 := Nrm.nrm h7
        refine Ch.yes rfl rfl rfl h7 rfl (by decide) (ok_move rfl (vl rfl)) ?_
        refine Ch.yes rfl rfl rfl h7 rfl (by decide) (ok_int rfl (vl rfl) (vl rfl) rfl) ?_
        refine Ch.op rfl rfl (by decide) (ok_pick_t rfl (vl rfl) h7 (vl rfl)) ?_
        refine Ch.nil ?_
        refine Fin.go ?_
        refine Tr.weak [(0, _), (1, _), (2, _), (3, _), (4, _), (10, _), (11, _), (12, _), (13, _), (75, _)] ⟨⟨_, rfl, Pr.le_refl _⟩, ⟨_, rfl, Pr.le_refl _⟩, ⟨_, rfl, Pr.le_refl _⟩, ⟨_, rfl, Pr.le_refl _⟩, ⟨_, rfl, Pr.le_refl _⟩, ⟨_, rfl, Pr.le_refl _⟩, ⟨_, rfl, Pr.le_refl _⟩, ⟨_, rfl, Pr.le_refl _⟩, ⟨_, rfl, Pr.le_refl _⟩, ⟨_, rfl, Pr.le_refl _⟩, trivial⟩ ?_
        refine Tr.cond rfl (fun h8 => ?_) (fun h8 => ?_)
        ·
         have q8 := Nrm.nrm h8
         refine Tr.seq ?_
         refine Tr.regT ?_
         refine TO.op rfl rfl (by decide) (ok_move rfl (vl rfl)) ?_
         refine TO.op rfl rfl (by decide) (ok_move rfl (vl rfl)) ?_
         refine TO.op rfl rfl (by decide) (ok_move rfl (vl rfl)) ?_
         refine TO.op rfl rfl (by decide) (ok_move rfl (vl rfl)) ?_
         refine TO.efc 0 rfl rfl (by decide) (ef_callc rfl rfl (by decide) rfl (w_sins5F (by first | omega | (simp only [List.length_set]; omega)) (by omega) hw (by omega) (by omega) (by omega) (by omega)) ⟨⟨_, rfl, Pr.le_refl _⟩, ⟨_, rfl, Pr.le_refl _⟩, ⟨_, rfl, Pr.le_refl _⟩, ⟨_, rfl, Pr.le_refl _⟩, trivial⟩) ?_
         refine TO.ex 80 rfl (fun z2 => TO.fact 80 rfl fun hz2 => ?_)
         have hzz := hz2
         refine TO.nil ?_
         refine Fin.go ?_
         refine Tr.weak [(0, _), (1, _), (2, _), (3, _), (4, _), (10, _), (11, _), (12, _), (13, _), (80, _)] ⟨⟨_, rfl, Pr.le_refl _⟩, ⟨_, rfl, Pr.le_refl _⟩, ⟨_, rfl, Pr.le_refl _⟩, ⟨_, rfl, Pr.le_refl _⟩, ⟨_, rfl, Pr.le_refl _⟩, ⟨_, rfl, Pr.le_refl _⟩, ⟨_, rfl, Pr.le_refl _⟩, ⟨_, rfl, Pr.le_refl _⟩, ⟨_, rfl, Pr.le_refl _⟩, ⟨_, rfl, Pr.le_refl _⟩, trivial⟩ ?_
         refine Tr.cond rfl (fun h9 => ?_) (fun h9 => ?_)
         ·
          have q9 := Nrm.nrm h9
          have hdone := hps.done (hzz h9)
          refine Tr.ret ?_
          refine Fin.then_ret ?_
          refine Fin.block_ret ?_
          refine Fin.then_ret ?_
          refine Fin.block_ret ?_
          refine Fin.closeL (SortL c a b l) 0 rfl (hdone) ?_
          exact Fin.retM0r rfl
         ·
          have q9 := Nrm.nrm h9
          refine Tr.skip ?_
          exact Fin.fam_same () (by simp_all) ⟨⟨_, rfl, Pr.le_refl _⟩, ⟨_, rfl, Pr.le_refl _⟩, ⟨_, rfl, Pr.le_refl _⟩, ⟨_, rfl, Pr.le_refl _⟩, ⟨_, rfl, Pr.le_refl _⟩, ⟨_, rfl, Pr.le_refl _⟩, ⟨_, rfl, Pr.le_refl _⟩, ⟨_, rfl, Pr.le_refl _⟩, ⟨_, rfl, Pr.le_refl _⟩, trivial⟩
        ·
         have q8 := Nrm.nrm h8
         refine Tr.skip ?_
         exact Fin.fam_same () (by simp_all) ⟨⟨_, rfl, Pr.le_refl _⟩, ⟨_, rfl, Pr.le_refl _⟩, ⟨_, rfl, Pr.le_refl _⟩, ⟨_, rfl, Pr.le_refl _⟩, ⟨_, rfl, Pr.le_refl _⟩, ⟨_, rfl, Pr.le_refl _⟩, ⟨_, rfl, Pr.le_refl _⟩, ⟨_, rfl, Pr.le_refl _⟩, ⟨_, rfl, Pr.le_refl _⟩, trivial⟩
       ·
        have q7 := Nrm.nrm h7
        refine Ch.no rfl rfl rfl (ne_true h7) rfl (by decide) ?_
        refine Ch.no rfl rfl rfl (ne_true h7) rfl (by decide) ?_
        refine Ch.op rfl rfl (by decide) (ok_pick_f rfl (vl rfl) h7 (vl rfl)) ?_
        refine Ch.nil ?_
        refine Fin.go ?_
        refine Tr.weak [(0, _), (1, _), (2, _), (3, _), (4, _), (10, _), (11, _), (12, _), (13, _), (75, _)] ⟨⟨_, rfl, Pr.le_refl _⟩, ⟨_, rfl, Pr.le_refl _⟩, ⟨_, rfl, Pr.le_refl _⟩, ⟨_, rfl, Pr.le_refl _⟩, ⟨_, rfl, Pr.le_refl _⟩, ⟨_, rfl, Pr.le_refl _⟩, ⟨_, rfl, Pr.le_refl _⟩, ⟨_, rfl, Pr.le_refl _⟩, ⟨_, rfl, Pr.le_refl _⟩, ⟨_, rfl, Pr.le_refl _⟩, trivial⟩ ?_
        refine Tr.cond rfl (fun h => nomatch h) (fun _ => ?_)
        refine Tr.skip ?_
        exact Fin.fam_same () (by simp_all) ⟨⟨_, rfl, Pr.le_refl _⟩, ⟨_, rfl, Pr.le_refl _⟩, ⟨_, rfl, Pr.le_refl _⟩, ⟨_, rfl, Pr.le_refl _⟩, ⟨_, rfl, Pr.le_refl _⟩, ⟨_, rfl, Pr.le_refl _⟩, ⟨_, rfl, Pr.le_refl _⟩, ⟨_, rfl, Pr.le_refl _⟩, ⟨_, rfl, Pr.le_refl _⟩, trivial⟩
      ·
       have q6 := Nrm.nrm h6
       refine Ch.no rfl rfl rfl (ne_true h6) rfl (by decide) ?_
       refine Ch.op rfl rfl (by decide) (ok_pick_f rfl (vl rfl) h6 (vl rfl)) ?_
       refine Ch.op rfl rfl (by decide) (ok_move rfl (vl rfl)) ?_
       refine Ch.no rfl rfl rfl (by decide) rfl (by decide) ?_
       refine Ch.no rfl rfl rfl (by decide) rfl (by decide) ?_
       refine Ch.op rfl rfl (by decide) (ok_pick_f rfl (vl rfl) rfl (vl rfl)) ?_
       refine Ch.nil ?_
       refine Fin.go ?_
       refine Tr.weak [(0, _), (1, _), (2, _), (3, _), (4, _), (10, _), (11, _), (12, _), (13, _), (75, _)] ⟨⟨_, rfl, Pr.le_refl _⟩, ⟨_, rfl, Pr.le_refl _⟩, ⟨_, rfl, Pr.le_refl _⟩, ⟨_, rfl, Pr.le_refl _⟩, ⟨_, rfl, Pr.le_refl _⟩, ⟨_, rfl, Pr.le_refl _⟩, ⟨_, rfl, Pr.le_refl _⟩, ⟨_, rfl, Pr.le_refl _⟩, ⟨_, rfl, Pr.le_refl _⟩, ⟨_, rfl, Pr.le_refl _⟩, trivial⟩ ?_
       refine Tr.cond rfl (fun h => nomatch h) (fun _ => ?_)
       refine Tr.skip ?_
       exact Fin.fam_same () (by simp_all) ⟨⟨_, rfl, Pr.le_refl _⟩, ⟨_, rfl, Pr.le_refl _⟩, ⟨_, rfl, Pr.le_refl _⟩, ⟨_, rfl, Pr.le_refl _⟩, ⟨_, rfl, Pr.le_refl _⟩, ⟨_, rfl, Pr.le_refl _⟩, ⟨_, rfl, Pr.le_refl _⟩, ⟨_, rfl, Pr.le_refl _⟩, ⟨_, rfl, Pr.le_refl _⟩, trivial⟩
     ·
      refine Tr.seq ?_
      refine Tr.seq ?_
      refine Tr.reg1 mixed (by kernel_rfl) ?_
      refine Ch.op rfl rfl (by decide) (ok_move rfl (vl rfl)) ?_
      refine Ch.op rfl rfl (by decide) (ok_int rfl (vl rfl) (vl rfl) rfl) ?_
      refine Ch.op rfl rfl (by decide) (ok_move rfl (vl rfl)) ?_
      refine Ch.cases 83 rfl (fun h10 => ?_) (fun h10 => ?_)
      ·
       have q10 := Nrm.nrm h10
       refine Ch.yes rfl rfl rfl h10 rfl (by decide) (ok_move rfl (vl rfl)) ?_
       refine Ch.yes rfl rfl rfl h10 rfl (by decide) (ok_move rfl (vl rfl)) ?_
       refine Ch.yes rfl rfl rfl h10 rfl (by decide) (ok_move rfl (vl rfl)) ?_
       first
        | (refine Ch.yes rfl rfl rfl h10 rfl (by decide) (ok_sub rfl (vl rfl) (vl rfl) ?hin) ?_; case hin => unfold InI; omega)
        | refine Ch.yes rfl rfl rfl h10 rfl (by decide) (ok_int rfl (vl rfl) (vl rfl) rfl) ?_
       refine Ch.yes rfl rfl rfl h10 rfl (by decide) (okp_indexSl rfl Tryz.underlying29 sz40 (vl rfl) (vl rfl) (by omega) (by omega)) ?_
       refine Ch.yes rfl rfl rfl h10 rfl (by decide) (ok_rd 0 rfl (rd_loadA rfl agg40 sz40 (vl rfl) (cells_atG (f := rowFc) (fun _ => rfl) (by omega)) rfl)) ?_
       refine Ch.yes rfl rfl rfl h10 rfl (by decide) (ok_move rfl (vl rfl)) ?_
       refine Ch.yes rfl rfl rfl h10 rfl (by decide) (ok_move rfl (vl rfl)) ?_
       refine Ch.yes rfl rfl rfl h10 rfl (by decide) (okp_indexSl rfl Tryz.underlying29 sz40 (vl rfl) (vl rfl) (by omega) (by omega)) ?_
       refine Ch.yes rfl rfl rfl h10 rfl (by decide) (ok_rd 0 rfl (rd_loadA rfl agg40 sz40 (vl rfl) (cells_atG (f := rowFc) (fun _ => rfl) (by omega)) rfl)) ?_
       refine Ch.yes rfl rfl rfl h10 rfl (by decide) (ok_callc (_, _) rfl (vl rfl) ⟨⟨_, rfl, Pr.le_refl _⟩, ⟨_, rfl, Pr.le_refl _⟩, trivial⟩) ?_
       refine Ch.yes rfl rfl rfl h10 rfl (by decide) (ok_int rfl (vl rfl) (vl rfl) rfl) ?_
       refine Ch.yes rfl rfl rfl h10 rfl (by decide) (ok_not rfl (vl rfl)) ?_
       refine Ch.op rfl rfl (by decide) (ok_pick_t rfl (vl rfl) h10 (vl rfl)) ?_
       refine Ch.nil ?_
       refine Fin.go ?_
       refine Tr.weak [(0, _), (1, _), (2, _), (3, _), (4, _), (10, _), (11, _), (12, _), (13, _), (97, _)] ⟨⟨_, rfl, Pr.le_refl _⟩, ⟨_, rfl, Pr.le_refl _⟩, ⟨_, rfl, Pr.le_refl _⟩, ⟨_, rfl, Pr.le_refl _⟩, ⟨_, rfl, Pr.le_refl _⟩, ⟨_, rfl, Pr.le_refl _⟩, ⟨_, rfl, Pr.le_refl _⟩, ⟨_, rfl, Pr.le_refl _⟩, ⟨_, rfl, Pr.le_refl _⟩, ⟨_, rfl, Pr.le_refl _⟩, trivial⟩ ?_
       refine Tr.cond rfl (fun h11 => ?_) (fun h11 => ?_)
       ·
        have q11 := Nrm.nrm h11
        refine Tr.seq ?_
        refine Tr.regT ?_
        refine TO.op rfl rfl (by decide) (ok_move rfl (vl rfl)) ?_
        refine TO.op rfl rfl (by decide) (ok_move rfl (vl rfl)) ?_
        refine TO.op rfl rfl (by decide) (ok_move rfl (vl rfl)) ?_
        refine TO.op rfl rfl (by decide) (ok_move rfl (vl rfl)) ?_
        refine TO.op rfl rfl (by decide) (ok_move rfl (vl rfl)) ?_
        refine TO.efc 0 rfl rfl (by decide) (ef_callc rfl rfl (by decide) rfl (w_speqF (by first | omega | (simp only [List.length_set]; omega)) (by omega) (by omega) (by omega) (by omega) (by omega) (by omega)) ⟨⟨_, rfl, Pr.le_refl _⟩, ⟨_, rfl, Pr.le_refl _⟩, ⟨_, rfl, Pr.le_refl _⟩, ⟨_, rfl, Pr.le_refl _⟩, ⟨_, rfl, Pr.le_refl _⟩, trivial⟩) ?_
        refine TO.openL 0 rfl fun t7 hp7 => ?_
        have hpl7 := hp7.len
        obtain ⟨hps, hk1, hk2⟩ := hps.eqL hw hls hp7 (by omega) (by omega) rfl (by omega) (by omega) (by omega) (by omega) (by omega) (by assumption)
        refine TO.op rfl rfl (by decide) (ok_assign rfl (vl rfl)) ?_
        refine TO.nil ?_
        refine Fin.go ?_
        refine Tr.weak [(0, _), (2, _), (3, _), (4, _), (10, _), (11, _), (15, _)] ⟨⟨_, rfl, Pr.le_refl _⟩, ⟨_, rfl, Pr.le_refl _⟩, ⟨_, rfl, Pr.le_refl _⟩, ⟨_, rfl, Pr.le_refl _⟩, ⟨_, rfl, Pr.le_refl _⟩, ⟨_, rfl, Pr.le_refl _⟩, ⟨_, rfl, Pr.le_refl _⟩, trivial⟩ ?_
        refine Tr.seq ?_
        refine Tr.reg0 ?_
        refine Ch.op rfl rfl (by decide) (ok_move rfl (vl rfl)) ?_
        refine Ch.op rfl rfl (by decide) (ok_assign rfl (vl rfl)) ?_
        refine Ch.nil ?_
        refine Fin.go ?_
        refine Tr.exit ?_
        refine Fin.then_exit ?_
        refine Fin.block_here ?_
        exact Fin.famD4V0 (_) (_) ((lim2, (_, _))) (_)  (⟨⟨⟨⟨by omega, by omega, by omega⟩, hlm2, hlm3⟩, by omega, by first | exact hps | (rw [Int.toNat_natCast]; exact hps) | (rw [show (((k : Nat) : Int) + 1).toNat = k + 1 by omega]; exact hps)⟩, by omega⟩) ⟨⟨_, rfl, Pr.le_refl _⟩, ⟨_, rfl, Pr.le_refl _⟩, ⟨_, rfl, Pr.le_refl _⟩, ⟨_, rfl, Pr.le_refl _⟩, ⟨_, rfl, Pr.le_refl _⟩, ⟨_, rfl, Pr.le_refl _⟩, ⟨_, rfl, Pr.le_refl _⟩, trivial⟩ (fun _ _ h => h)
       ·
        have q11 := Nrm.nrm h11
        refine Tr.skip ?_
        refine Fin.go ?_
        refine Tr.seq ?_
        refine Tr.regT ?_
        refine TO.op rfl rfl (by decide) (ok_move rfl (vl rfl)) ?_
        refine TO.op rfl rfl (by decide) (ok_move rfl (vl rfl)) ?_
        refine TO.op rfl rfl (by decide) (ok_move rfl (vl rfl)) ?_
        refine TO.op rfl rfl (by decide) (ok_move rfl (vl rfl)) ?_
        refine TO.op rfl rfl (by decide) (ok_move rfl (vl rfl)) ?_
        refine TO.efc 0 rfl rfl (by decide) (ef_callc rfl rfl (by decide) rfl (w_spartF (by first | omega | (simp only [List.length_set]; omega)) (by omega) (by omega) (by omega) (by omega) (by omega) (by omega)) ⟨⟨_, rfl, Pr.le_refl _⟩, ⟨_, rfl, Pr.le_refl _⟩, ⟨_, rfl, Pr.le_refl _⟩, ⟨_, rfl, Pr.le_refl _⟩, ⟨_, rfl, Pr.le_refl _⟩, trivial⟩) ?_
        refine TO.ex 111 rfl (fun z3 => TO.fact 111 rfl fun hz3 => ?_)
        refine TO.openL 0 rfl fun t8 hp8 => ?_
        have hpl8 := hp8.len
        obtain ⟨hPm, hPt⟩ := parted_of hw hp8 (by omega) (by omega) (by omega) (by omega)
        have hps := hps.perm hls hPm
        have hk1 := hPt.h1
        have hk2 := hPt.h2
        generalize (PA c a1 b1 pv st3).1 = k at *
        refine TO.op rfl rfl (by decide) (ok_move rfl (vl rfl)) ?_
        refine TO.op rfl rfl (by decide) (ok_extract rfl (vl rfl) rfl) ?_
        refine TO.op rfl rfl (by decide) (ok_extract rfl (vl rfl) rfl) ?_
        refine TO.op rfl rfl (by decide) (ok_assign rfl (vl rfl)) ?_
        refine TO.op rfl rfl (by decide) (ok_assign rfl (vl rfl)) ?_
        refine TO.nil ?_
        refine Fin.go ?_
        refine Tr.weak [(0, _), (1, _), (2, _), (3, _), (4, _), (12, _), (16, _), (17, _)] ⟨⟨_, rfl, Pr.le_refl _⟩, ⟨_, rfl, Pr.le_refl _⟩, ⟨_, rfl, Pr.le_refl _⟩, ⟨_, rfl, Pr.le_refl _⟩, ⟨_, rfl, Pr.le_refl _⟩, ⟨_, rfl, Pr.le_refl _⟩, ⟨_, rfl, Pr.le_refl _⟩, ⟨_, rfl, Pr.le_refl _⟩, trivial⟩ ?_
        refine Tr.seq ?_
        refine Tr.reg0 ?_
        refine Ch.op rfl rfl (by decide) (ok_move rfl (vl rfl)) ?_
        refine Ch.op rfl rfl (by decide) (ok_assign rfl (vl rfl)) ?_
        refine Ch.nil ?_
        refine Fin.go ?_
        refine Tr.seq ?_
        refine Tr.reg0 ?_
        refine Ch.op rfl rfl (by decide) (ok_move rfl (vl rfl)) ?_
        refine Ch.op rfl rfl (by decide) (ok_move rfl (vl rfl)) ?_
        first
         | (refine Ch.op rfl rfl (by decide) (ok_sub rfl (vl rfl) (vl rfl) ?hin) ?_; case hin => unfold InI; omega)
         | refine Ch.op rfl rfl (by decide) (ok_int rfl (vl rfl) (vl rfl) rfl) ?_
        refine Ch.op rfl rfl (by decide) (ok_move rfl (vl rfl)) ?_
        refine Ch.op rfl rfl (by decide) (ok_move rfl (vl rfl)) ?_
        first
         | (refine Ch.op rfl rfl (by decide) (ok_sub rfl (vl rfl) (vl rfl) ?hin) ?_; case hin => unfold InI; omega)
         | refine Ch.op rfl rfl (by decide) (ok_int rfl (vl rfl) (vl rfl) rfl) ?_
        refine Ch.op rfl rfl (by decide) (ok_assign rfl (vl rfl)) ?_
        refine Ch.op rfl rfl (by decide) (ok_assign rfl (vl rfl)) ?_
        refine Ch.nil ?_
        refine Fin.go ?_
        refine Tr.weak [(0, _), (1, _), (2, _), (3, _), (4, _), (11, _), (12, _), (16, _), (18, _), (19, _)] ⟨⟨_, rfl, Pr.le_refl _⟩, ⟨_, rfl, Pr.le_refl _⟩, ⟨_, rfl, Pr.le_refl _⟩, ⟨_, rfl, Pr.le_refl _⟩, ⟨_, rfl, Pr.le_refl _⟩, ⟨_, rfl, Pr.le_refl _⟩, ⟨_, rfl, Pr.le_refl _⟩, ⟨_, rfl, Pr.le_refl _⟩, ⟨_, rfl, Pr.le_refl _⟩, ⟨_, rfl, Pr.le_refl _⟩, trivial⟩ ?_
        refine Tr.seq ?_
        refine Tr.reg0 ?_
        refine Ch.op rfl rfl (by decide) (ok_move rfl (vl rfl)) ?_
        refine Ch.op rfl rfl (by decide) (ok_quo rfl (vl rfl) (vl rfl) (by omega)) ?_
        refine Ch.op rfl rfl (by decide) (ok_assign rfl (vl rfl)) ?_
        refine Ch.nil ?_
        refine Fin.go ?_
        refine Tr.seq ?_
        refine Tr.reg0 ?_
        refine Ch.op rfl rfl (by decide) (ok_move rfl (vl rfl)) ?_
        refine Ch.op rfl rfl (by decide) (ok_move rfl (vl rfl)) ?_
        refine Ch.op rfl rfl (by decide) (ok_int rfl (vl rfl) (vl rfl) rfl) ?_
        refine Ch.nil ?_
        refine Fin.go ?_
        refine Tr.weak [(0, _), (1, _), (2, _), (3, _), (4, _), (11, _), (16, _), (18, _), (19, _), (20, _), (125, _)] ⟨⟨_, rfl, Pr.le_refl _⟩, ⟨_, rfl, Pr.le_refl _⟩, ⟨_, rfl, Pr.le_refl _⟩, ⟨_, rfl, Pr.le_refl _⟩, ⟨_, rfl, Pr.le_refl _⟩, ⟨_, rfl, Pr.le_refl _⟩, ⟨_, rfl, Pr.le_refl _⟩, ⟨_, rfl, Pr.le_refl _⟩, ⟨_, rfl, Pr.le_refl _⟩, ⟨_, rfl, Pr.le_refl _⟩, ⟨_, rfl, Pr.le_refl _⟩, trivial⟩ ?_
        refine Tr.cond rfl (fun h12 => ?_) (fun h12 => ?_)
        ·
         have q12 := Nrm.nrm h12
         refine Tr.seq ?_
         refine Tr.reg0 ?_
         refine Ch.op rfl rfl (by decide) (ok_move rfl (vl rfl)) ?_
         refine Ch.op rfl rfl (by decide) (ok_move rfl (vl rfl)) ?_
         refine Ch.op rfl rfl (by decide) (ok_int rfl (vl rfl) (vl rfl) rfl) ?_
         refine Ch.op rfl rfl (by decide) (ok_assign rfl (vl rfl)) ?_
         refine Ch.nil ?_
         refine Fin.go ?_
         refine Tr.weak [(0, _), (1, _), (2, _), (3, _), (4, _), (10, _), (11, _), (16, _)] ⟨⟨_, rfl, Pr.le_refl _⟩, ⟨_, rfl, Pr.le_refl _⟩, ⟨_, rfl, Pr.le_refl _⟩, ⟨_, rfl, Pr.le_refl _⟩, ⟨_, rfl, Pr.le_refl _⟩, ⟨_, rfl, Pr.le_refl _⟩, ⟨_, rfl, Pr.le_refl _⟩, ⟨_, rfl, Pr.le_refl _⟩, trivial⟩ ?_
         refine Tr.seq ?_
         refine Tr.regT ?_
         refine TO.op rfl rfl (by decide) (ok_move rfl (vl rfl)) ?_
         refine TO.op rfl rfl (by decide) (ok_move rfl (vl rfl)) ?_
         refine TO.op rfl rfl (by decide) (ok_move rfl (vl rfl)) ?_
         refine TO.op rfl rfl (by decide) (ok_move rfl (vl rfl)) ?_
         refine TO.op rfl rfl (by decide) (ok_move rfl (vl rfl)) ?_
         refine TO.efc 0 rfl rfl (by decide) (ef_callc rfl rfl (by decide) rfl (ih (by omega) (by first | exact hps.belowL (Nat.le_of_lt hPt.h2) | exact hPt.belowR) (by omega) (by omega) (by omega) (by omega) (by omega) (by omega)) ⟨⟨_, rfl, Pr.le_refl _⟩, ⟨_, rfl, Pr.le_refl _⟩, ⟨_, rfl, Pr.le_refl _⟩, ⟨_, rfl, Pr.le_refl _⟩, ⟨_, rfl, Pr.le_refl _⟩, trivial⟩) ?_
         refine TO.openL 0 rfl fun t9 hp9 => ?_
         have hpl9 := hp9.len
         first | have hps := hps.left hw hls hPt hp9.1 hp9.2 | have hps := hps.right hw hls hPt hp9.1 hp9.2
         refine TO.nil ?_
         refine Fin.go ?_
         refine Tr.weak [(0, _), (2, _), (3, _), (4, _), (10, _), (11, _), (16, _)] ⟨⟨_, rfl, Pr.le_refl _⟩, ⟨_, rfl, Pr.le_refl _⟩, ⟨_, rfl, Pr.le_refl _⟩, ⟨_, rfl, Pr.le_refl _⟩, ⟨_, rfl, Pr.le_refl _⟩, ⟨_, rfl, Pr.le_refl _⟩, ⟨_, rfl, Pr.le_refl _⟩, trivial⟩ ?_
         refine Tr.reg0 ?_
         refine Ch.op rfl rfl (by decide) (ok_move rfl (vl rfl)) ?_
         first
          | (refine Ch.op rfl rfl (by decide) (ok_add rfl (vl rfl) (vl rfl) ?hin) ?_; case hin => unfold InI; omega)
          | refine Ch.op rfl rfl (by decide) (ok_int rfl (vl rfl) (vl rfl) rfl) ?_
         refine Ch.op rfl rfl (by decide) (ok_assign rfl (vl rfl)) ?_
         refine Ch.nil ?_
         refine Fin.block ?_
         exact Fin.famD4V0 (_) (_) ((lim2, (_, _))) (_)  (⟨⟨⟨⟨by omega, by omega, by omega⟩, hlm2, hlm3⟩, by omega, by first | exact hps | (rw [Int.toNat_natCast]; exact hps) | (rw [show (((k : Nat) : Int) + 1).toNat = k + 1 by omega]; exact hps)⟩, by omega⟩) ⟨⟨_, rfl, Pr.le_refl _⟩, ⟨_, rfl, Pr.le_refl _⟩, ⟨_, rfl, Pr.le_refl _⟩, ⟨_, rfl, Pr.le_refl _⟩, ⟨_, rfl, Pr.le_refl _⟩, ⟨_, rfl, Pr.le_refl _⟩, ⟨_, rfl, Pr.le_refl _⟩, trivial⟩ (fun _ _ h => h)
        ·
         have q12 := Nrm.nrm h12
         refine Tr.seq ?_
         refine Tr.reg0 ?_
         refine Ch.op rfl rfl (by decide) (ok_move rfl (vl rfl)) ?_
         refine Ch.op rfl rfl (by decide) (ok_move rfl (vl rfl)) ?_
         refine Ch.op rfl rfl (by decide) (ok_int rfl (vl rfl) (vl rfl) rfl) ?_
         refine Ch.op rfl rfl (by decide) (ok_assign rfl (vl rfl)) ?_
         refine Ch.nil ?_
         refine Fin.go ?_
         refine Tr.weak [(0, _), (1, _), (2, _), (3, _), (4, _), (10, _), (11, _), (16, _)] ⟨⟨_, rfl, Pr.le_refl _⟩, ⟨_, rfl, Pr.le_refl _⟩, ⟨_, rfl, Pr.le_refl _⟩, ⟨_, rfl, Pr.le_refl _⟩, ⟨_, rfl, Pr.le_refl _⟩, ⟨_, rfl, Pr.le_refl _⟩, ⟨_, rfl, Pr.le_refl _⟩, ⟨_, rfl, Pr.le_refl _⟩, trivial⟩ ?_
         refine Tr.seq ?_
         refine Tr.regT ?_
         refine TO.op rfl rfl (by decide) (ok_move rfl (vl rfl)) ?_
         refine TO.op rfl rfl (by decide) (ok_move rfl (vl rfl)) ?_
         first
          | (refine TO.op rfl rfl (by decide) (ok_add rfl (vl rfl) (vl rfl) ?hin) ?_; case hin => unfold InI; omega)
          | refine TO.op rfl rfl (by decide) (ok_int rfl (vl rfl) (vl rfl) rfl) ?_
         refine TO.op rfl rfl (by decide) (ok_move rfl (vl rfl)) ?_
         refine TO.op rfl rfl (by decide) (ok_move rfl (vl rfl)) ?_
         refine TO.op rfl rfl (by decide) (ok_move rfl (vl rfl)) ?_
         refine TO.efc 0 rfl rfl (by decide) (ef_callc rfl rfl (by decide) rfl (ih (by omega) (by first | exact hps.belowL (Nat.le_of_lt hPt.h2) | exact hPt.belowR) (by omega) (by omega) (by omega) (by omega) (by omega) (by omega)) ⟨⟨_, rfl, Pr.le_refl _⟩, ⟨_, rfl, Pr.le_refl _⟩, ⟨_, rfl, Pr.le_refl _⟩, ⟨_, rfl, Pr.le_refl _⟩, ⟨_, rfl, Pr.le_refl _⟩, trivial⟩) ?_
         refine TO.openL 0 rfl fun t10 hp10 => ?_
         have hpl10 := hp10.len
         first | have hps := hps.left hw hls hPt hp10.1 hp10.2 | have hps := hps.right hw hls hPt hp10.1 hp10.2
         refine TO.nil ?_
         refine Fin.go ?_
         refine Tr.weak [(0, _), (1, _), (3, _), (4, _), (10, _), (11, _), (16, _)] ⟨⟨_, rfl, Pr.le_refl _⟩, ⟨_, rfl, Pr.le_refl _⟩, ⟨_, rfl, Pr.le_refl _⟩, ⟨_, rfl, Pr.le_refl _⟩, ⟨_, rfl, Pr.le_refl _⟩, ⟨_, rfl, Pr.le_refl _⟩, ⟨_, rfl, Pr.le_refl _⟩, trivial⟩ ?_
         refine Tr.reg0 ?_
         refine Ch.op rfl rfl (by decide) (ok_move rfl (vl rfl)) ?_
         refine Ch.op rfl rfl (by decide) (ok_assign rfl (vl rfl)) ?_
         refine Ch.nil ?_
         refine Fin.block ?_
         exact Fin.famD4V0 (_) (_) ((lim2, (_, _))) (_)  (⟨⟨⟨⟨by omega, by omega, by omega⟩, hlm2, hlm3⟩, by omega, by first | exact hps | (rw [Int.toNat_natCast]; exact hps) | (rw [show (((k : Nat) : Int) + 1).toNat = k + 1 by omega]; exact hps)⟩, by omega⟩) ⟨⟨_, rfl, Pr.le_refl _⟩, ⟨_, rfl, Pr.le_refl _⟩, ⟨_, rfl, Pr.le_refl _⟩, ⟨_, rfl, Pr.le_refl _⟩, ⟨_, rfl, Pr.le_refl _⟩, ⟨_, rfl, Pr.le_refl _⟩, ⟨_, rfl, Pr.le_refl _⟩, trivial⟩ (fun _ _ h => h)
      ·
       have q10 := Nrm.nrm h10
       refine Ch.no rfl rfl rfl (ne_true h10) rfl (by decide) ?_
       refine Ch.no rfl rfl rfl (ne_true h10) rfl (by decide) ?_
       refine Ch.no rfl rfl rfl (ne_true h10) rfl (by decide) ?_
       refine Ch.no rfl rfl rfl (ne_true h10) rfl (by decide) ?_
       refine Ch.no rfl rfl rfl (ne_true h10) rfl (by decide) ?_
       refine Ch.no rfl rfl rfl (ne_true h10) rfl (by decide) ?_
       refine Ch.no rfl rfl rfl (ne_true h10) rfl (by decide) ?_
       refine Ch.no rfl rfl rfl (ne_true h10) rfl (by decide) ?_
       refine Ch.no rfl rfl rfl (ne_true h10) rfl (by decide) ?_
       refine Ch.no rfl rfl rfl (ne_true h10) rfl (by decide) ?_
       refine Ch.no rfl rfl rfl (ne_true h10) rfl (by decide) ?_
       refine Ch.no rfl rfl rfl (ne_true h10) rfl (by decide) ?_
       refine Ch.no rfl rfl rfl (ne_true h10) rfl (by decide) ?_
       refine Ch.op rfl rfl (by decide) (ok_pick_f rfl (vl rfl) h10 (vl rfl)) ?_
       refine Ch.nil ?_
       refine Fin.go ?_
       refine Tr.weak [(0, _), (1, _), (2, _), (3, _), (4, _), (10, _), (11, _), (12, _), (13, _), (97, _)] ⟨⟨_, rfl, Pr.le_refl _⟩, ⟨_, rfl, Pr.le_refl _⟩, ⟨_, rfl, Pr.le_refl _⟩, ⟨_, rfl, Pr.le_refl _⟩, ⟨_, rfl, Pr.le_refl _⟩, ⟨_, rfl, Pr.le_refl _⟩, ⟨_, rfl, Pr.le_refl _⟩, ⟨_, rfl, Pr.le_refl _⟩, ⟨_, rfl, Pr.le_refl _⟩, ⟨_, rfl, Pr.le_refl _⟩, trivial⟩ ?_
       refine Tr.cond rfl (fun h => nomatch h) (fun _ => ?_)
       refine Tr.skip ?_
       refine Fin.go ?_
       refine Tr.seq ?_
       refine Tr.regT ?_
       refine TO.op rfl rfl (by decide) (ok_move rfl (vl rfl)) ?_
       refine TO.op rfl rfl (by decide) (ok_move rfl (vl rfl)) ?_
       refine TO.op rfl rfl (by decide) (ok_move rfl (vl rfl)) ?_
       refine TO.op rfl rfl (by decide) (ok_move rfl (vl rfl)) ?_
       refine TO.op rfl rfl (by decide) (ok_move rfl (vl rfl)) ?_
       refine TO.efc 0 rfl rfl (by decide) (ef_callc rfl rfl (by decide) rfl (w_spartF (by first | omega | (simp only [List.length_set]; omega)) (by omega) (by omega) (by omega) (by omega) (by omega) (by omega)) ⟨⟨_, rfl, Pr.le_refl _⟩, ⟨_, rfl, Pr.le_refl _⟩, ⟨_, rfl, Pr.le_refl _⟩, ⟨_, rfl, Pr.le_refl _⟩, ⟨_, rfl, Pr.le_refl _⟩, trivial⟩) ?_
       refine TO.ex 111 rfl (fun z4 => TO.fact 111 rfl fun hz4 => ?_)
       refine TO.openL 0 rfl fun t11 hp11 => ?_
       have hpl11 := hp11.len
       obtain ⟨hPm, hPt⟩ := parted_of hw hp11 (by omega) (by omega) (by omega) (by omega)
       have hps := hps.perm hls hPm
       have hk1 := hPt.h1
       have hk2 := hPt.h2
       generalize (PA c a1 b1 pv st3).1 = k at *
       refine TO.op rfl rfl (by decide) (ok_move rfl (vl rfl)) ?_
       refine TO.op rfl rfl (by decide) (ok_extract rfl (vl rfl) rfl) ?_
       refine TO.op rfl rfl (by decide) (ok_extract rfl (vl rfl) rfl) ?_
       refine TO.op rfl rfl (by decide) (ok_assign rfl (vl rfl)) ?_
       refine TO.op rfl rfl (by decide) (ok_assign rfl (vl rfl)) ?_
       refine TO.nil ?_
       refine Fin.go ?_
       refine Tr.weak [(0, _), (1, _), (2, _), (3, _), (4, _), (12, _), (16, _), (17, _)] ⟨⟨_, rfl, Pr.le_refl _⟩, ⟨_, rfl, Pr.le_refl _⟩, ⟨_, rfl, Pr.le_refl _⟩, ⟨_, rfl, Pr.le_refl _⟩, ⟨_, rfl, Pr.le_refl _⟩, ⟨_, rfl, Pr.le_refl _⟩, ⟨_, rfl, Pr.le_refl _⟩, ⟨_, rfl, Pr.le_refl _⟩, trivial⟩ ?_
       refine Tr.seq ?_
       refine Tr.reg0 ?_
       refine Ch.op rfl rfl (by decide) (ok_move rfl (vl rfl)) ?_
       refine Ch.op rfl rfl (by decide) (ok_assign rfl (vl rfl)) ?_
       refine Ch.nil ?_
       refine Fin.go ?_
       refine Tr.seq ?_
       refine Tr.reg0 ?_
       refine Ch.op rfl rfl (by decide) (ok_move rfl (vl rfl)) ?_
       refine Ch.op rfl rfl (by decide) (ok_move rfl (vl rfl)) ?_
       first
        | (refine Ch.op rfl rfl (by decide) (ok_sub rfl (vl rfl) (vl rfl) ?hin) ?_; case hin => unfold InI; omega)
        | refine Ch.op rfl rfl (by decide) (ok_int rfl (vl rfl) (vl rfl) rfl) ?_
       refine Ch.op rfl rfl (by decide) (ok_move rfl (vl rfl)) ?_
       refine Ch.op rfl rfl (by decide) (ok_move rfl (vl rfl)) ?_
       first
        | (refine Ch.op rfl rfl (by decide) (ok_sub rfl (vl rfl) (vl rfl) ?hin) ?_; case hin => unfold InI; omega)
        | refine Ch.op rfl rfl (by decide) (ok_int rfl (vl rfl) (vl rfl) rfl) ?_
       refine Ch.op rfl rfl (by decide) (ok_assign rfl (vl rfl)) ?_
       refine Ch.op rfl rfl (by decide) (ok_assign rfl (vl rfl)) ?_
       refine Ch.nil ?_
       refine Fin.go ?_
       refine Tr.weak [(0, _), (1, _), (2, _), (3, _), (4, _), (11, _), (12, _), (16, _), (18, _), (19, _)] ⟨⟨_, rfl, Pr.le_refl _⟩, ⟨_, rfl, Pr.le_refl _⟩, ⟨_, rfl, Pr.le_refl _⟩, ⟨_, rfl, Pr.le_refl _⟩, ⟨_, rfl, Pr.le_refl _⟩, ⟨_, rfl, Pr.le_refl _⟩, ⟨_, rfl, Pr.le_refl _⟩, ⟨_, rfl, Pr.le_refl _⟩, ⟨_, rfl, Pr.le_refl _⟩, ⟨_, rfl, Pr.le_refl _⟩, trivial⟩ ?_
       refine Tr.seq ?_
       refine Tr.reg0 ?_
       refine Ch.op rfl rfl (by decide) (ok_move rfl (vl rfl)) ?_
       refine Ch.op rfl rfl (by decide) (ok_quo rfl (vl rfl) (vl rfl) (by omega)) ?_
       refine Ch.op rfl rfl (by decide) (ok_assign rfl (vl rfl)) ?_
       refine Ch.nil ?_
       refine Fin.go ?_
       refine Tr.seq ?_
       refine Tr.reg0 ?_
       refine Ch.op rfl rfl (by decide) (ok_move rfl (vl rfl)) ?_
       refine Ch.op rfl rfl (by decide) (ok_move rfl (vl rfl)) ?_
       refine Ch.op rfl rfl (by decide) (ok_int rfl (vl rfl) (vl rfl) rfl) ?_
       refine Ch.nil ?_
       refine Fin.go ?_
       refine Tr.weak [(0, _), (1, _), (2, _), (3, _), (4, _), (11, _), (16, _), (18, _), (19, _), (20, _), (125, _)] ⟨⟨_, rfl, Pr.le_refl _⟩, ⟨_, rfl, Pr.le_refl _⟩, ⟨_, rfl, Pr.le_refl _⟩, ⟨_, rfl, Pr.le_refl _⟩, ⟨_, rfl, Pr.le_refl _⟩, ⟨_, rfl, Pr.le_refl _⟩, ⟨_, rfl, Pr.le_refl _⟩, ⟨_, rfl, Pr.le_refl _⟩, ⟨_, rfl, Pr.le_refl _⟩, ⟨_, rfl, Pr.le_refl _⟩, ⟨_, rfl, Pr.le_refl _⟩, trivial⟩ ?_
       refine Tr.cond rfl (fun h13 => ?_) (fun h13 => ?_)
       ·
        have q13 := Nrm.nrm h13
        refine Tr.seq ?_
        refine Tr.reg0 ?_
        refine Ch.op rfl rfl (by decide) (ok_move rfl (vl rfl)) ?_
        refine Ch.op rfl rfl (by decide) (ok_move rfl (vl rfl)) ?_
        refine Ch.op rfl rfl (by decide) (ok_int rfl (vl rfl) (vl rfl) rfl) ?_
        refine Ch.op rfl rfl (by decide) (ok_assign rfl (vl rfl)) ?_
        refine Ch.nil ?_
        refine Fin.go ?_
        refine Tr.weak [(0, _), (1, _), (2, _), (3, _), (4, _), (10, _), (11, _), (16, _)] ⟨⟨_, rfl, Pr.le_refl _⟩, ⟨_, rfl, Pr.le_refl _⟩, ⟨_, rfl, Pr.le_refl _⟩, ⟨_, rfl, Pr.le_refl _⟩, ⟨_, rfl, Pr.le_refl _⟩, ⟨_, rfl, Pr.le_refl _⟩, ⟨_, rfl, Pr.le_refl _⟩, ⟨_, rfl, Pr.le_refl _⟩, trivial⟩ ?_
        refine Tr.seq ?_
        refine Tr.regT ?_
        refine TO.op rfl rfl (by decide) (ok_move rfl (vl rfl)) ?_
        refine TO.op rfl rfl (by decide) (ok_move rfl (vl rfl)) ?_
        refine TO.op rfl rfl (by decide) (ok_move rfl (vl rfl)) ?_
        refine TO.op rfl rfl (by decide) (ok_move rfl (vl rfl)) ?_
        refine TO.op rfl rfl (by decide) (ok_move rfl (vl rfl)) ?_
        refine TO.efc 0 rfl rfl (by decide) (ef_callc rfl rfl (by decide) rfl (ih (by omega) (by first | exact hps.belowL (Nat.le_of_lt hPt.h2) | exact hPt.belowR) (by omega) (by omega) (by omega) (by omega) (by omega) (by omega)) ⟨⟨_, rfl, Pr.le_refl _⟩, ⟨_, rfl, Pr.le_refl _⟩, ⟨_, rfl, Pr.le_refl _⟩, ⟨_, rfl, Pr.le_refl _⟩, ⟨_, rfl, Pr.le_refl _⟩, trivial⟩) ?_
        refine TO.openL 0 rfl fun t12 hp12 => ?_
        have hpl12 := hp12.len
        first | have hps := hps.left hw hls hPt hp12.1 hp12.2 | have hps := hps.right hw hls hPt hp12.1 hp12.2
        refine TO.nil ?_
        refine Fin.go ?_
        refine Tr.weak [(0, _), (2, _), (3, _), (4, _), (10, _), (11, _), (16, _)] ⟨⟨_, rfl, Pr.le_refl _⟩, ⟨_, rfl, Pr.le_refl _⟩, ⟨_, rfl, Pr.le_refl _⟩, ⟨_, rfl, Pr.le_refl _⟩, ⟨_, rfl, Pr.le_refl _⟩, ⟨_, rfl, Pr.le_refl _⟩, ⟨_, rfl, Pr.le_refl _⟩, trivial⟩ ?_
        refine Tr.reg0 ?_
        refine Ch.op rfl rfl (by decide) (ok_move rfl (vl rfl)) ?_
        first
         | (refine Ch.op rfl rfl (by decide) (ok_add rfl (vl rfl) (vl rfl) ?hin) ?_; case hin => unfold InI; omega)
         | refine Ch.op rfl rfl (by decide) (ok_int rfl (vl rfl) (vl rfl) rfl) ?_
        refine Ch.op rfl rfl (by decide) (ok_assign rfl (vl rfl)) ?_
        refine Ch.nil ?_
        refine Fin.block ?_
        exact Fin.famD4V0 (_) (_) ((lim2, (_, _))) (_)  (⟨⟨⟨⟨by omega, by omega, by omega⟩, hlm2, hlm3⟩, by omega, by first | exact hps | (rw [Int.toNat_natCast]; exact hps) | (rw [show (((k : Nat) : Int) + 1).toNat = k + 1 by omega]; exact hps)⟩, by omega⟩) ⟨⟨_, rfl, Pr.le_refl _⟩, ⟨_, rfl, Pr.le_refl _⟩, ⟨_, rfl, Pr.le_refl _⟩, ⟨_, rfl, Pr.le_refl _⟩, ⟨_, rfl, Pr.le_refl _⟩, ⟨_, rfl, Pr.le_refl _⟩, ⟨_, rfl, Pr.le_refl _⟩, trivial⟩ (fun _ _ h => h)
       ·
        have q13 := Nrm.nrm h13
        refine Tr.seq ?_
        refine Tr.reg0 ?_
        refine Ch.op rfl rfl (by decide) (ok_move rfl (vl rfl)) ?_
        refine Ch.op rfl rfl (by decide) (ok_move rfl (vl rfl)) ?_
        refine Ch.op rfl rfl (by decide) (ok_int rfl (vl rfl) (vl rfl) rfl) ?_
        refine Ch.op rfl rfl (by decide) (ok_assign rfl (vl rfl)) ?_
        refine Ch.nil ?_
        refine Fin.go ?_
        refine Tr.weak [(0, _), (1, _), (2, _), (3, _), (4, _), (10, _), (11, _), (16, _)] ⟨⟨_, rfl, Pr.le_refl _⟩, ⟨_, rfl, Pr.le_refl _⟩, ⟨_, rfl, Pr.le_refl _⟩, ⟨_, rfl, Pr.le_refl _⟩, ⟨_, rfl, Pr.le_refl _⟩, ⟨_, rfl, Pr.le_refl _⟩, ⟨_, rfl, Pr.le_refl _⟩, ⟨_, rfl, Pr.le_refl _⟩, trivial⟩ ?_
        refine Tr.seq ?_
        refine Tr.regT ?_
        refine TO.op rfl rfl (by decide) (ok_move rfl (vl rfl)) ?_
        refine TO.op rfl rfl (by decide) (ok_move rfl (vl rfl)) ?_
        first
         | (refine TO.op rfl rfl (by decide) (ok_add rfl (vl rfl) (vl rfl) ?hin) ?_; case hin => unfold InI; omega)
         | refine TO.op rfl rfl (by decide) (ok_int rfl (vl rfl) (vl rfl) rfl) ?_
        refine TO.op rfl rfl (by decide) (ok_move rfl (vl rfl)) ?_
        refine TO.op rfl rfl (by decide) (ok_move rfl (vl rfl)) ?_
        refine TO.op rfl rfl (by decide) (ok_move rfl (vl rfl)) ?_
        refine TO.efc 0 rfl rfl (by decide) (ef_callc rfl rfl (by decide) rfl (ih (by omega) (by first | exact hps.belowL (Nat.le_of_lt hPt.h2) | exact hPt.belowR) (by omega) (by omega) (by omega) (by omega) (by omega) (by omega)) ⟨⟨_, rfl, Pr.le_refl _⟩, ⟨_, rfl, Pr.le_refl _⟩, ⟨_, rfl, Pr.le_refl _⟩, ⟨_, rfl, Pr.le_refl _⟩, ⟨_, rfl, Pr.le_refl _⟩, trivial⟩) ?_
        refine TO.openL 0 rfl fun t13 hp13 => ?_
        have hpl13 := hp13.len
        first | have hps := hps.left hw hls hPt hp13.1 hp13.2 | have hps := hps.right hw hls hPt hp13.1 hp13.2
        refine TO.nil ?_
        refine Fin.go ?_
        refine Tr.weak [(0, _), (1, _), (3, _), (4, _), (10, _), (11, _), (16, _)] ⟨⟨_, rfl, Pr.le_refl _⟩, ⟨_, rfl, Pr.le_refl _⟩, ⟨_, rfl, Pr.le_refl _⟩, ⟨_, rfl, Pr.le_refl _⟩, ⟨_, rfl, Pr.le_refl _⟩, ⟨_, rfl, Pr.le_refl _⟩, ⟨_, rfl, Pr.le_refl _⟩, trivial⟩ ?_
        refine Tr.reg0 ?_
        refine Ch.op rfl rfl (by decide) (ok_move rfl (vl rfl)) ?_
        refine Ch.op rfl rfl (by decide) (ok_assign rfl (vl rfl)) ?_
        refine Ch.nil ?_
        refine Fin.block ?_
        exact Fin.famD4V0 (_) (_) ((lim2, (_, _))) (_)  (⟨⟨⟨⟨by omega, by omega, by omega⟩, hlm2, hlm3⟩, by omega, by first | exact hps | (rw [Int.toNat_natCast]; exact hps) | (rw [show (((k : Nat) : Int) + 1).toNat = k + 1 by omega]; exact hps)⟩, by omega⟩) ⟨⟨_, rfl, Pr.le_refl _⟩, ⟨_, rfl, Pr.le_refl _⟩, ⟨_, rfl, Pr.le_refl _⟩, ⟨_, rfl, Pr.le_refl _⟩, ⟨_, rfl, Pr.le_refl _⟩, ⟨_, rfl, Pr.le_refl _⟩, ⟨_, rfl, Pr.le_refl _⟩, trivial⟩ (fun _ _ h => h)
theorem w_spdqF : ∀ (m : Nat) {l : List Fct} {c : Fct × Fct → Int} {b0 cap len : Nat} {sp : List Value} {a b lim : Int}, (hln : l.length = len) → (hll : len ≤ 1000000) → (hw : Go.Sort.SWO (ltc c)) → (hc5 : len < 50) → Go.Sort.Below (ltc c) a.toNat b.toNat l.toArray → 0 ≤ a → a ≤ b → b ≤ len → 0 ≤ lim → lim ≤ 100 → (b - a).toNat < m → FunM Tryz.prog 65 [is (.slice (some ⟨b0, 0, none⟩) len cap), int a, int b, int lim, clo Tryz.prog (fun x : Fct × Fct => [agg (rowFc x.1), agg (rowFc x.2)]) (fun x => int (c x))] (unit_) (cellsRes true b0 40 ((l.map rowFc).flatten ++ sp.map is)) (fun _ => relRes b0 40 rowFc (SortL c a b l) (sp.map is))
  | 0, _, _, _, _, _, _, _, _, _, _, _, _, _, _, _, _, _, _, _, h => absurd h (Nat.not_lt_zero _)
  | m + 1, _, _, _, _, _, _, _, _, _, hln, hll, hw, hc5, hB, h0, hab, hb, hl0, hl1, hm => w_spdq0F hln hll hw hc5 hB h0 hab hb hl0 hl1 (m + 1) hm (fun h1 h2 h3 h4 h5 h6 h7 h8 => w_spdqF m h1 hll hw hc5 h2 h3 h4 h5 h6 h7 (by omega))

set_option maxRecDepth 20000 in
theorem w_sortF {l : List Fct} {c : Fct × Fct → Int} {b0 cap len : Nat} {sp : List Value}  (hln : l.length = len) (hw : Go.Sort.SWO (ltc c)) (hc5 : len < 50) : FunM Tryz.prog 38 [is (.slice (some ⟨b0, 0, none⟩) len cap), clo Tryz.prog (fun x : Fct × Fct => [agg (rowFc x.1), agg (rowFc x.2)]) (fun x => int (c x))] (unit_) (cellsRes true b0 40 ((l.map rowFc).flatten ++ sp.map is)) (fun _ => relRes b0 40 rowFc (SortL c 0 len l) (sp.map is)) := by
 refine FunM.of Tryz.func38 rfl rfl (by exact Nat.le_of_ble_eq_true rfl) fun M0 w0 S rs M1 w1 => ?_
 have hw64 : IntKind.u64.wrap ((len : Nat) : Int) = len := IntWalk.u64_in _ ⟨by omega, by omega⟩
 refine Tr.seq ?_
 refine Tr.reg0 ?_
 refine Ch.op rfl rfl (by decide) (ok_move rfl (vl rfl)) ?_
 refine Ch.op rfl rfl (by decide) (okb_len rfl Tryz.underlying29 (vl rfl)) ?_
 refine Ch.op rfl rfl (by decide) (ok_assign rfl (vl rfl)) ?_
 refine Ch.nil ?_
 refine Fin.go ?_
 refine Tr.regT ?_
 refine TO.op rfl rfl (by decide) (ok_move rfl (vl rfl)) ?_
 refine TO.op rfl rfl (by decide) (ok_move rfl (vl rfl)) ?_
 refine TO.op rfl rfl (by decide) (ok_move rfl (vl rfl)) ?_
 first
  | refine TO.op rfl rfl (by decide) (ok_convI rfl Tryz.underlying3 Tryz.underlying105 (vl rfl) (by unfold InI; omega)) ?_
  | refine TO.op rfl rfl (by decide) (ok_conv rfl Tryz.underlying3 Tryz.underlying105 (vl rfl)) ?_
 refine TO.op rfl rfl (by decide) (ok_call rfl (w_BLenx (by omega) (by omega)) ⟨⟨_, rfl, Pr.le_refl _⟩, trivial⟩) ?_
 refine TO.ex 11 rfl (fun k => TO.fact 11 rfl fun hk => ?_)
 obtain ⟨hk1, hk2, hk3⟩ := hk
 refine TO.op rfl rfl (by decide) (ok_move rfl (vl rfl)) ?_
 refine TO.efc 0 rfl rfl (by decide) (ef_callc rfl rfl (by decide) rfl (w_spdqF (len + 1) (by omega) (by omega) hw (by omega) (.inl rfl) (by omega) (by omega) (by omega) (by omega) (by omega) (by omega)) ⟨⟨_, rfl, Pr.le_refl _⟩, ⟨_, rfl, Pr.le_refl _⟩, ⟨_, rfl, Pr.le_refl _⟩, ⟨_, rfl, Pr.le_refl _⟩, ⟨_, rfl, Pr.le_refl _⟩, trivial⟩) ?_
 refine TO.openL 0 rfl fun t1 hp1 => ?_
 have hpl1 := hp1.len
 refine TO.nil ?_
 refine Fin.closeL (SortL c 0 len l) 0 rfl (hp1) ?_
 exact Fin.retM0 rfl
set_option maxRecDepth 20000 in
theorem w_insNF {rows : List (List Pr)} {b : Int} (hb : b ≤ 1) : Fun Tryz.prog 105 [slice 8 rows, int 0, int b, any] (unit_) := by
 refine Fun.of Tryz.func105 rfl rfl (by exact Nat.le_of_ble_eq_true rfl) fun M0 w0 => ?_
 refine Tr.seq ?_
 refine Tr.reg0 ?_
 refine Ch.op rfl rfl (by decide) (ok_move rfl (vl rfl)) ?_
 first
  | (refine Ch.op rfl rfl (by decide) (ok_add rfl (vl rfl) (vl rfl) ?hin) ?_; case hin => unfold InI; omega)
  | refine Ch.op rfl rfl (by decide) (ok_int rfl (vl rfl) (vl rfl) rfl) ?_
 refine Ch.op rfl rfl (by decide) (ok_assign rfl (vl rfl)) ?_
 refine Ch.nil ?_
 refine Fin.go ?_
 refine Tr.block ?_
 refine Tr.loopw [(0, _), (1, _), (2, _), (3, _)] ⟨⟨_, rfl, Pr.le_refl _⟩, ⟨_, rfl, Pr.le_refl _⟩, ⟨_, rfl, Pr.le_refl _⟩, ⟨_, rfl, Pr.le_refl _⟩, trivial⟩ (fun i : Int => [(8, int i)]) (fun i : Int => i = 1) (fun i : Int => 0) 1 (rfl) ⟨⟨_, rfl, Pr.le_refl _⟩, trivial⟩ ?_
 rintro i hi
 refine Tr.seq ?_
 refine Tr.seq ?_
 refine Tr.reg0 ?_
 refine Ch.op rfl rfl (by decide) (ok_move rfl (vl rfl)) ?_
 refine Ch.op rfl rfl (by decide) (ok_move rfl (vl rfl)) ?_
 refine Ch.op rfl rfl (by decide) (ok_int rfl (vl rfl) (vl rfl) rfl) ?_
 refine Ch.nil ?_
 refine Fin.go ?_
 refine Tr.cond rfl (fun h1 => ?_) (fun h1 => ?_)
 ·
  have q1 := Nrm.nrm h1
  have := h1
  exfalso; omega
 ·
  have q1 := Nrm.nrm h1
  have := h1
  refine Tr.exit ?_
  refine Fin.then_exit ?_
  refine Fin.then_exit ?_
  refine Fin.block_here ?_
  exact Fin.ret0 rfl
set_option maxRecDepth 20000 in
theorem w_pdqNF {rows : List (List Pr)} {b : Int} (h0 : 0 ≤ b) (hb : b ≤ 1) : Fun Tryz.prog 65 [slice 8 rows, int 0, int b, any, any] (unit_) := by
 refine Fun.of Tryz.func65 rfl rfl (by exact Nat.le_of_ble_eq_true rfl) fun M0 w0 => ?_
 refine Tr.seq ?_
 refine Tr.reg0 ?_
 refine Ch.op rfl rfl (by decide) (ok_assign rfl (vl rfl)) ?_
 refine Ch.nil ?_
 refine Fin.go ?_
 refine Tr.seq ?_
 refine Tr.reg0 ?_
 refine Ch.op rfl rfl (by decide) (ok_assign rfl (vl rfl)) ?_
 refine Ch.nil ?_
 refine Fin.go ?_
 refine Tr.block ?_
 refine Tr.loopw [(0, _), (4, _)] ⟨⟨_, rfl, Pr.le_refl _⟩, ⟨_, rfl, Pr.le_refl _⟩, trivial⟩ (fun (u : Unit) => [(1, int 0), (2, int b)]) (fun (u : Unit) => True) (fun (u : Unit) => 0) () (trivial) ⟨⟨_, rfl, Pr.le_refl _⟩, ⟨_, rfl, Pr.le_refl _⟩, trivial⟩ ?_
 rintro u _
 refine Tr.block ?_
 refine Tr.seq ?_
 refine Tr.reg0 ?_
 refine Ch.op rfl rfl (by decide) (ok_move rfl (vl rfl)) ?_
 refine Ch.op rfl rfl (by decide) (ok_move rfl (vl rfl)) ?_
 first
  | (refine Ch.op rfl rfl (by decide) (ok_sub rfl (vl rfl) (vl rfl) ?hin) ?_; case hin => unfold InI; omega)
  | refine Ch.op rfl rfl (by decide) (ok_int rfl (vl rfl) (vl rfl) rfl) ?_
 refine Ch.op rfl rfl (by decide) (ok_assign rfl (vl rfl)) ?_
 refine Ch.nil ?_
 refine Fin.go ?_
 refine Tr.seq ?_
 refine Tr.seq ?_
 refine Tr.reg0 ?_
 refine Ch.op rfl rfl (by decide) (ok_move rfl (vl rfl)) ?_
 refine Ch.op rfl rfl (by decide) (ok_int rfl (vl rfl) (vl rfl) rfl) ?_
 refine Ch.nil ?_
 refine Fin.go ?_
 refine Tr.cond rfl (fun h1 => ?_) (fun h1 => ?_)
 ·
  have q1 := Nrm.nrm h1
  refine Tr.seq ?_
  refine Tr.reg0 ?_
  refine Ch.op rfl rfl (by decide) (ok_move rfl (vl rfl)) ?_
  refine Ch.op rfl rfl (by decide) (ok_move rfl (vl rfl)) ?_
  refine Ch.op rfl rfl (by decide) (ok_move rfl (vl rfl)) ?_
  refine Ch.op rfl rfl (by decide) (ok_move rfl (vl rfl)) ?_
  refine Ch.op rfl rfl (by decide) (ok_call rfl (w_insNF (by omega)) ⟨⟨_, rfl, Pr.le_refl _⟩, ⟨_, rfl, Pr.le_refl _⟩, ⟨_, rfl, Pr.le_refl _⟩, ⟨_, rfl, Pr.le_refl _⟩, trivial⟩) ?_
  refine Ch.nil ?_
  refine Fin.go ?_
  refine Tr.weak [] trivial ?_
  refine Tr.ret ?_
  refine Fin.then_ret ?_
  refine Fin.block_ret ?_
  refine Fin.then_ret ?_
  refine Fin.block_ret ?_
  exact Fin.ret0r rfl
 ·
  have q1 := Nrm.nrm h1
  exfalso; omega
set_option maxRecDepth 20000 in
theorem w_SortNF {rows : List (List Pr)} (hs : rows.length ≤ 1) : Fun Tryz.prog 38 [slice 8 rows, any] (unit_) := by
 refine Fun.of Tryz.func38 rfl rfl (by exact Nat.le_of_ble_eq_true rfl) fun M0 w0 => ?_
 have hw : IntKind.u64.wrap ((rows.length : Nat) : Int) = rows.length := IntWalk.u64_in _ ⟨by omega, by omega⟩
 refine Tr.seq ?_
 refine Tr.reg0 ?_
 refine Ch.op rfl rfl (by decide) (ok_move rfl (vl rfl)) ?_
 first
  | refine Ch.op rfl rfl (by decide) (ok_lenm rfl Tryz.underlying29 (vl rfl)) ?_
  | refine Ch.op rfl rfl (by decide) (ok_len rfl Tryz.underlying29 (vl rfl)) ?_
 refine Ch.op rfl rfl (by decide) (ok_assign rfl (vl rfl)) ?_
 refine Ch.nil ?_
 refine Fin.go ?_
 refine Tr.reg0 ?_
 refine Ch.op rfl rfl (by decide) (ok_move rfl (vl rfl)) ?_
 refine Ch.op rfl rfl (by decide) (ok_move rfl (vl rfl)) ?_
 refine Ch.op rfl rfl (by decide) (ok_move rfl (vl rfl)) ?_
 first
  | refine Ch.op rfl rfl (by decide) (ok_convI rfl Tryz.underlying3 Tryz.underlying105 (vl rfl) (by unfold InI; omega)) ?_
  | refine Ch.op rfl rfl (by decide) (ok_conv rfl Tryz.underlying3 Tryz.underlying105 (vl rfl)) ?_
 refine Ch.op rfl rfl (by decide) (ok_call rfl (w_BLenx (by omega) (by omega)) ⟨⟨_, rfl, Pr.le_refl _⟩, trivial⟩) ?_
 refine Ch.op rfl rfl (by decide) (ok_move rfl (vl rfl)) ?_
 refine Ch.op rfl rfl (by decide) (ok_call rfl (w_pdqNF (rows := rows) (b := (rows.length : Int)) (by omega) (by omega)) ⟨⟨_, rfl, Pr.le_refl _⟩, ⟨_, rfl, Pr.le_refl _⟩, ⟨_, rfl, Pr.le_refl _⟩, ⟨_, rfl, le_any _⟩, ⟨_, rfl, le_any _⟩, trivial⟩) ?_
 refine Ch.nil ?_
 exact Fin.ret0 rfl
set_option maxRecDepth 20000 in
theorem w_sortOF {l : List Fct} {c : Fct × Fct → Int} {v : Value} (hw : Go.Sort.SWO (ltc c)) (hs : l.length < 50) : FunM Tryz.prog 38 [is v, clo Tryz.prog (fun x : Fct × Fct => [agg (rowFc x.1), agg (rowFc x.2)]) (fun x => int (c x))] unit_ (ownRes 40 8 (l.map rowFc) v) (fun _ => ownRel 40 8 rowFc (SortL c 0 l.length l) v) := by
  refine FunM.own_rel (fun h => ⟨?_, ?_⟩) (fun b cap sp => w_sortF rfl hw hs) (fun st h => h.len) ⟨_, Tryz.func38, rfl, rfl⟩
  · refine Fun.le (w_SortNF (rows := []) (by decide)) ?_ (Pr.le_refl _)
    rintro M w vs hv
    match vs, hv with
    | [a, b], ⟨h1, h2, h3⟩ => exact ⟨nil_slice _ M w a h1, trivial, h3⟩
  · subst h; exact ⟨Go.Sort.permIn_refl _ _ _, fun i j h1 h2 h3 => by simp at h3⟩

end Go.Proofs.YthmnoekgicggnaaGreat
