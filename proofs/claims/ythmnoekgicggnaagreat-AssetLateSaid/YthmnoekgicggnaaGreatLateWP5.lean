/-
  Part 5 of the texts that prove this claim, merged.
-/
import Derived.Test.YthmnoekgicggnaaGreatLateWP4
set_option linter.all false
namespace Go.Proofs.YthmnoekgicggnaaGreat
open Go Go.RowKit Cp

theorem tab_len {l : List UInt8} {x : Nat} {y : Int} {hl : x < l.length} (h : (List.range 256).all (fun i => match l[i]? with | some b => decide (b.toNat ≤ 8 ∧ (1 ≤ i → 2 ^ b.toNat ≤ 2 * i)) | none => true) = true) (hx : x < 256) (hy : (x : Int) = y) :
    0 ≤ IntKind.i64.wrap (IntKind.i64.wrap ((l[x]).toNat : Int)) ∧ IntKind.i64.wrap (IntKind.i64.wrap ((l[x]).toNat : Int)) ≤ 8 ∧ (1 ≤ y → ((2 ^ (IntKind.i64.wrap (IntKind.i64.wrap ((l[x]).toNat : Int))).toNat : Nat) : Int) ≤ 2 * y) := by
  subst hy
  have h1 := List.all_eq_true.1 h x (List.mem_range.2 hx)
  rw [List.getElem?_eq_getElem hl] at h1
  have h1 := of_decide_eq_true h1
  have hb : (l[x]).toNat < 256 := UInt8.toNat_lt _
  have hw := IntWalk.i64_in ((l[x]).toNat : Int) ⟨by omega, by omega⟩
  rw [hw, hw, Int.toNat_natCast]
  exact ⟨by omega, by omega, fun hx1 => by have := h1.2 (by omega); omega⟩

set_option maxRecDepth 20000 in
theorem w_Len64x {x : Int} (h0 : 0 ≤ x) (h1 : x < 256) : Fun Tryz.prog 114 [is (.int .u64 x)] (ex fun k : Int => fact (0 ≤ k ∧ k ≤ 8 ∧ (1 ≤ x → ((2 ^ k.toNat : Nat) : Int) ≤ 2 * x)) (int k)) := by
 refine Fun.of Tryz.func114 rfl rfl (by exact Nat.le_of_ble_eq_true rfl) fun M0 w0 => ?_
 have hw : IntKind.u8.wrap x = x := IntWalk.u8_in x ⟨by omega, by omega⟩
 refine Tr.seq (Tr.reg0 ?_)
 refine Ch.as rfl rfl rfl rfl rfl ?_
 refine Ch.nil (Fin.go (Tr.seq (Tr.seq (Tr.reg0 ?_))))
 refine Ch.mv rfl rfl rfl rfl rfl ?_
 refine Ch.oo rfl rfl rfl (ok_int rfl (vl rfl) (vl rfl) rfl) ?_
 refine Ch.nil (Fin.go ?_)
 refine Tr.cn rfl (fun h1 q1 => ?_) (fun h1 q1 => ?_)
 ·
  exfalso; omega
 ·
  refine Tr.skip (Fin.go (Tr.seq (Tr.seq (Tr.reg0 ?_))))
  refine Ch.mv rfl rfl rfl rfl rfl ?_
  refine Ch.oo rfl rfl rfl (ok_int rfl (vl rfl) (vl rfl) rfl) ?_
  refine Ch.nil (Fin.go ?_)
  refine Tr.cn rfl (fun h2 q2 => ?_) (fun h2 q2 => ?_)
  ·
   exfalso; omega
  ·
   refine Tr.skip (Fin.go (Tr.seq (Tr.seq (Tr.reg0 ?_))))
   refine Ch.mv rfl rfl rfl rfl rfl ?_
   refine Ch.oo rfl rfl rfl (ok_int rfl (vl rfl) (vl rfl) rfl) ?_
   refine Ch.nil (Fin.go ?_)
   refine Tr.cn rfl (fun h3 q3 => ?_) (fun h3 q3 => ?_)
   ·
    exfalso; omega
   ·
    refine Tr.skip (Fin.go (Tr.seq (Tr.reg0 ?_)))
    refine Ch.mv rfl rfl rfl rfl rfl ?_
    refine Ch.mv rfl rfl rfl rfl rfl ?_
    first
     | refine Ch.oo rfl rfl rfl (ok_convI rfl Tryz.underlying138 Tryz.underlying5 (vl rfl) (by unfold InI; omega)) ?_
     | refine Ch.oo rfl rfl rfl (ok_conv rfl Tryz.underlying138 Tryz.underlying5 (vl rfl)) ?_
    refine Ch.oo rfl rfl rfl (ok_sidx rfl Tryz.underlying9 (vl rfl) (vl rfl) (by omega) (List.getElem?_eq_getElem (by show _ < 256; omega))) ?_
    first
     | refine Ch.oo rfl rfl rfl (ok_convI rfl Tryz.underlying5 Tryz.underlying3 (vl rfl) (by unfold InI; omega)) ?_
     | refine Ch.oo rfl rfl rfl (ok_conv rfl Tryz.underlying5 Tryz.underlying3 (vl rfl)) ?_
    first
     | (refine Ch.oo rfl rfl rfl (ok_add rfl (vl rfl) (vl rfl) ?hin) ?_; case hin => unfold InI; omega)
     | refine Ch.oo rfl rfl rfl (ok_int rfl (vl rfl) (vl rfl) rfl) ?_
    refine Ch.as rfl rfl rfl rfl rfl ?_
    refine Ch.nil (Fin.go ?_)
    refine Tr.w1 2 rfl ?_
    refine Tr.ret ?_
    refine Fin.ret1 rfl (OutW.bse _ _) rfl ?_
    · refine ex_in _ (fact_in ?_ (Pr.le_refl _)); rw [Int.zero_add]; refine tab_len ?_ (by omega) (by omega); decide +kernel
set_option maxRecDepth 20000 in
theorem w_BLenx {x : Int} (h0 : 0 ≤ x) (h1 : x < 256) : Fun Tryz.prog 66 [is (.int .u64 x)] (ex fun k : Int => fact (0 ≤ k ∧ k ≤ 8 ∧ (1 ≤ x → ((2 ^ k.toNat : Nat) : Int) ≤ 2 * x)) (int k)) := by
 refine Fun.of Tryz.func66 rfl rfl (by exact Nat.le_of_ble_eq_true rfl) fun M0 w0 => ?_
 refine Tr.seq (Tr.reg0 ?_)
 refine Ch.as rfl rfl rfl rfl rfl ?_
 refine Ch.nil (Fin.go (Tr.seq ?_))
 refine Tr.cond rfl (fun h => nomatch h) (fun _ => ?_)
 refine Tr.skip (Fin.go (Tr.seq (Tr.reg0 ?_)))
 refine Ch.mv rfl rfl rfl rfl rfl ?_
 refine Ch.oo rfl rfl rfl (ok_call rfl (w_Len64x (by omega) (by omega)) ⟨ke rfl, trivial⟩) ?_
 refine Ch.as rfl rfl rfl rfl rfl ?_
 refine Ch.nil (Fin.go (Tr.ret ?_))
 refine Fin.ret1 rfl (OutW.bse _ _) rfl ?_
 · first | exact Pr.le_refl _ | (refine int_eq ?_; simp_all; done) | (refine bool_eq ?_; simp_all; done) | (refine bool_eq ?_; simp_all; omega) | (refine int_eq ?_; omega)
set_option maxRecDepth 20000 in
theorem w_npow {x : Int} (h0 : 1 ≤ x) (h1 : x < 256) : Fun Tryz.prog 137 [int x] (ex fun m : Int => fact (1 ≤ m ∧ m ≤ 2 * x) (is (.int .u64 m))) := by
 refine Fun.of Tryz.func137 rfl rfl (by exact Nat.le_of_ble_eq_true rfl) fun M0 w0 => ?_
 have hw : IntKind.u64.wrap x = x := IntWalk.u64_in x ⟨by omega, by omega⟩
 refine Tr.seq (Tr.reg0 ?_)
 refine Ch.as rfl rfl rfl rfl rfl ?_
 refine Ch.nil (Fin.go (Tr.seq (Tr.regT ?_)))
 refine TO.mv rfl rfl rfl rfl rfl ?_
 first
  | refine TO.oo rfl rfl rfl (ok_convI rfl Tryz.underlying3 Tryz.underlying105 (vl rfl) (by unfold InI; omega)) ?_
  | refine TO.oo rfl rfl rfl (ok_conv rfl Tryz.underlying3 Tryz.underlying105 (vl rfl)) ?_
 refine TO.oo rfl rfl rfl (ok_call rfl (w_BLenx (by omega) (by omega)) ⟨ke rfl, trivial⟩) ?_
 refine TO.ex 5 rfl (fun k => TO.fact 5 rfl fun hk => ?_)
 obtain ⟨hk1, hk2, hk3⟩ := hk
 refine TO.oo rfl rfl rfl (ok_shl1 rfl (vl rfl) (vl rfl) (by omega) (by omega) (hk3 (by omega))) ?_
 refine TO.as rfl rfl rfl rfl rfl ?_
 refine TO.nil (Fin.go (Tr.ret ?_))
 refine Fin.ret1 rfl (OutW.bse _ _) rfl ?_
 · exact fun M w v ⟨r, h, hv⟩ => ⟨r, by rw [hw] at h; exact h, hv⟩
set_option maxRecDepth 20000 in
theorem w_xnext {xb : Nat}  : FunM Tryz.prog 138 [is (.pointer (some ⟨xb, 0, none⟩))] (anyK .u64) (cellsRes true xb 151 [anyK .u64]) (fun _ => cellsRes true xb 151 [anyK .u64]) := by
 refine FunM.of Tryz.func138 rfl rfl (by exact Nat.le_of_ble_eq_true rfl) fun M0 w0 S rs M1 w1 => ?_
 refine Tr.seq (Tr.reg0 ?_)
 refine Ch.as rfl rfl rfl rfl rfl ?_
 refine Ch.nil (Fin.go (Tr.seq ?_))
 refine Tr.regX mixed [none, none, some (0, 0, false, 0), none, none, some (0, 0, false, 0), none, none, none, some (0, 0, true, 0)] (by kernel_rfl) ?_
 refine Cx.mv rfl rfl rfl rfl rfl ?_
 refine Cx.oo rfl rfl rfl (fun _ => okp_nilCheck rfl (vl rfl)) ?_
 refine Cx.rd 0 rfl rfl rfl (by decide) (rd_load1 rfl one151 (vl rfl) rfl) ?_
 refine Cx.mv rfl rfl rfl rfl rfl ?_
 refine Cx.oo rfl rfl rfl (fun _ => okp_nilCheck rfl (vl rfl)) ?_
 refine Cx.rd 0 rfl rfl rfl (by decide) (rd_load1 rfl one151 (vl rfl) rfl) ?_
 refine Cx.oo rfl rfl rfl (fun _ => ok_shK (by decide) rfl (vl rfl) (vl rfl) (by decide)) ?_
 refine Cx.oo rfl rfl rfl (fun _ => ok_bits (by decide) rfl (vl rfl) (vl rfl)) ?_
 refine Cx.oo rfl rfl rfl (fun _ => okp_nilCheck rfl (vl rfl)) ?_
 refine Cx.ef0 0 rfl rfl (ef_store rfl rfl (vl rfl) (VL.le (vl rfl) (one_cellsP _)) sz151 rfl (by exact Nat.le_of_ble_eq_true rfl) rfl) ?_
 refine Cx.nil ⟨rfl, ?_⟩
 refine FinX.done (AllC.cons (AllC.cons (AllC.map _))) ?_
 refine Fin.go (Tr.seq ?_)
 refine Tr.regX mixed [none, none, some (0, 0, false, 0), none, none, some (0, 0, false, 0), none, none, none, some (0, 0, true, 0)] (by kernel_rfl) ?_
 refine Cx.mv rfl rfl rfl rfl rfl ?_
 refine Cx.oo rfl rfl rfl (fun _ => okp_nilCheck rfl (vl rfl)) ?_
 refine Cx.rd 0 rfl rfl rfl (by decide) (rd_load1 rfl one151 (vl rfl) rfl) ?_
 refine Cx.mv rfl rfl rfl rfl rfl ?_
 refine Cx.oo rfl rfl rfl (fun _ => okp_nilCheck rfl (vl rfl)) ?_
 refine Cx.rd 0 rfl rfl rfl (by decide) (rd_load1 rfl one151 (vl rfl) rfl) ?_
 refine Cx.oo rfl rfl rfl (fun _ => ok_shK (by decide) rfl (vl rfl) (vl rfl) (by decide)) ?_
 refine Cx.oo rfl rfl rfl (fun _ => ok_bits (by decide) rfl (vl rfl) (vl rfl)) ?_
 refine Cx.oo rfl rfl rfl (fun _ => okp_nilCheck rfl (vl rfl)) ?_
 refine Cx.ef0 0 rfl rfl (ef_store rfl rfl (vl rfl) (VL.le (vl rfl) (one_cellsP _)) sz151 rfl (by exact Nat.le_of_ble_eq_true rfl) rfl) ?_
 refine Cx.nil ⟨rfl, ?_⟩
 refine FinX.done (AllC.cons (AllC.cons (AllC.map _))) ?_
 refine Fin.go ?_
 refine Tr.w1 0 rfl ?_
 refine Tr.seq ?_
 refine Tr.regX mixed [none, none, some (0, 0, false, 0), none, none, some (0, 0, false, 0), none, none, none, some (0, 0, true, 0)] (by kernel_rfl) ?_
 refine Cx.mv rfl rfl rfl rfl rfl ?_
 refine Cx.oo rfl rfl rfl (fun _ => okp_nilCheck rfl (vl rfl)) ?_
 refine Cx.rd 0 rfl rfl rfl (by decide) (rd_load1 rfl one151 (vl rfl) rfl) ?_
 refine Cx.mv rfl rfl rfl rfl rfl ?_
 refine Cx.oo rfl rfl rfl (fun _ => okp_nilCheck rfl (vl rfl)) ?_
 refine Cx.rd 0 rfl rfl rfl (by decide) (rd_load1 rfl one151 (vl rfl) rfl) ?_
 refine Cx.oo rfl rfl rfl (fun _ => ok_shK (by decide) rfl (vl rfl) (vl rfl) (by decide)) ?_
 refine Cx.oo rfl rfl rfl (fun _ => ok_bits (by decide) rfl (vl rfl) (vl rfl)) ?_
 refine Cx.oo rfl rfl rfl (fun _ => okp_nilCheck rfl (vl rfl)) ?_
 refine Cx.ef0 0 rfl rfl (ef_store rfl rfl (vl rfl) (VL.le (vl rfl) (one_cellsP _)) sz151 rfl (by exact Nat.le_of_ble_eq_true rfl) rfl) ?_
 refine Cx.nil ⟨rfl, ?_⟩
 refine FinX.done (AllC.cons (AllC.cons (AllC.map _))) ?_
 refine Fin.go (Tr.seq (Tr.reg0 ?_))
 refine Ch.mv rfl rfl rfl rfl rfl ?_
 refine Ch.oo rfl rfl rfl (okp_nilCheck rfl (vl rfl)) ?_
 refine Ch.oo rfl rfl rfl (ok_rd 0 rfl (rd_load1 rfl one151 (vl rfl) rfl)) ?_
 refine Ch.as rfl rfl rfl rfl rfl ?_
 refine Ch.nil (Fin.go ?_)
 refine Tr.w1 2 rfl ?_
 refine Tr.ret ?_
 refine Fin.retM1 rfl rfl ?_ (fun _ _ _ _ => rfl)
 · exact Pr.le_refl _
end Go.Proofs.YthmnoekgicggnaaGreat
namespace Go.Proofs.YthmnoekgicggnaaGreat
open Go Go.RowKit Cp
instance : Inhabited Fct := ⟨⟨0, [], 0, 0, 0, 0, [], 0⟩⟩
set_option maxRecDepth 20000 in
theorem w_sinsF {l : List Fct} {c : Fct × Fct → Int} {b0 cap len : Nat} {sp : List Value} {a b : Int} (hln : l.length = len) (hll : len ≤ 1000000) (hw : Go.Sort.SWO (ltc c)) (h0 : 0 ≤ a) (hab : a ≤ b) (hb : b ≤ len) : FunM Tryz.prog 105 [is (.slice (some ⟨b0, 0, none⟩) len cap), int a, int b, clo Tryz.prog (fun x : Fct × Fct => [agg (rowFc x.1), agg (rowFc x.2)]) (fun x => int (c x))] (unit_) (cellsRes true b0 40 ((l.map rowFc).flatten ++ sp.map is)) (fun _ => relRes b0 40 rowFc (SortL c a b l) (sp.map is)) := by
 refine FunM.of Tryz.func105 rfl rfl (by exact Nat.le_of_ble_eq_true rfl) fun M0 w0 S rs M1 w1 => ?_
 refine Tr.seq (Tr.reg0 ?_)
 refine Ch.mv rfl rfl rfl rfl rfl ?_
 first
  | (refine Ch.oo rfl rfl rfl (ok_add rfl (vl rfl) (vl rfl) ?hin) ?_; case hin => unfold InI; omega)
  | refine Ch.oo rfl rfl rfl (ok_int rfl (vl rfl) (vl rfl) rfl) ?_
 refine Ch.as rfl rfl rfl rfl rfl ?_
 refine Ch.nil (Fin.go (Tr.block ?_))
 refine Tr.loopD2V0 [(0, _), (1, _), (2, _), (3, _)] ⟨ke rfl, ke rfl, ke rfl, ke rfl, trivial⟩ (fun (i : Int) (st : List Fct) => [(8, int i)]) (fun (i : Int) (st : List Fct) => Hp M0 w0 S (cellsRes true b0 40 ((st.map rowFc).flatten ++ sp.map is) :: extRes M1 w1 :: rs)) (fun (i : Int) (st : List Fct) => a < i ∧ st.length = len ∧ Go.Sort.insOuter (ltc c) a.toNat b.toNat i.toNat st.toArray = Go.Sort.insertionSort (ltc c) l.toArray a.toNat b.toNat) (fun (i : Int) (st : List Fct) => (b - i).toNat) (a + 1) (l)  (⟨by omega, by omega, inso_start h0⟩) ⟨ke rfl, trivial⟩ (fun _ _ h => h) ?_
 rintro i st  ⟨hi1, hsl, hso⟩
 refine Tr.seq (Tr.seq (Tr.reg0 ?_))
 refine Ch.mv rfl rfl rfl rfl rfl ?_
 refine Ch.mv rfl rfl rfl rfl rfl ?_
 refine Ch.oo rfl rfl rfl (ok_int rfl (vl rfl) (vl rfl) rfl) ?_
 refine Ch.nil (Fin.go ?_)
 refine Tr.cn rfl (fun h1 q1 => ?_) (fun h1 q1 => ?_)
 ·
  have hib : i < b := of_decide_eq_true h1
  refine Tr.skip (Fin.go (Tr.seq (Tr.block (Tr.seq (Tr.reg0 ?_)))))
  refine Ch.mv rfl rfl rfl rfl rfl ?_
  refine Ch.as rfl rfl rfl rfl rfl ?_
  refine Ch.nil (Fin.go (Tr.block ?_))
  refine Tr.loopD2V0 [(0, _), (1, _), (2, _), (3, _), (8, _)] ⟨ke rfl, ke rfl, ke rfl, ke rfl, ke rfl, trivial⟩ (fun (j : Int) (st2 : List Fct) => [(9, int j)]) (fun (j : Int) (st2 : List Fct) => Hp M0 w0 S (cellsRes true b0 40 ((st2.map rowFc).flatten ++ sp.map is) :: extRes M1 w1 :: rs)) (fun (j : Int) (st2 : List Fct) => (a ≤ j ∧ j ≤ i) ∧ st2.length = len ∧ Go.Sort.insInner (ltc c) a.toNat j.toNat st2.toArray = Go.Sort.insInner (ltc c) a.toNat i.toNat st.toArray) (fun (j : Int) (st2 : List Fct) => (j - a).toNat) (i) (st)  (⟨⟨by omega, by omega⟩, hsl, rfl⟩) ⟨ke rfl, trivial⟩ (fun _ _ h => h) ?_
  rintro j st2  ⟨⟨hj1, hj2⟩, hsl2, hso2⟩
  refine Tr.seq (Tr.seq ?_)
  refine Tr.reg1 mixed (by kernel_rfl) ?_
  refine Ch.mv rfl rfl rfl rfl rfl ?_
  refine Ch.mv rfl rfl rfl rfl rfl ?_
  refine Ch.oo rfl rfl rfl (ok_int rfl (vl rfl) (vl rfl) rfl) ?_
  refine Ch.mv rfl rfl rfl rfl rfl ?_
  refine Ch.cs 21 rfl (fun h2 q2 => ?_) (fun h2 q2 => ?_)
  ·
   iterate 3 refine Ch.ym h2 rfl rfl rfl rfl rfl rfl rfl ?_
   refine Ch.y h2 rfl rfl rfl rfl rfl (okp_indexSl rfl Tryz.underlying29 sz40 (vl rfl) (vl rfl) (by omega) (by omega)) ?_
   refine Ch.y h2 rfl rfl rfl rfl rfl (ok_rd 0 rfl (rd_loadA rfl agg40 sz40 (vl rfl) (cells_atG (f := rowFc) (fun _ => rfl) (by omega)) rfl)) ?_
   refine Ch.ym h2 rfl rfl rfl rfl rfl rfl rfl ?_
   refine Ch.ym h2 rfl rfl rfl rfl rfl rfl rfl ?_
   first
    | (refine Ch.y h2 rfl rfl rfl rfl rfl (ok_sub rfl (vl rfl) (vl rfl) ?hin) ?_; case hin => unfold InI; omega)
    | refine Ch.y h2 rfl rfl rfl rfl rfl (ok_int rfl (vl rfl) (vl rfl) rfl) ?_
   refine Ch.y h2 rfl rfl rfl rfl rfl (okp_indexSl rfl Tryz.underlying29 sz40 (vl rfl) (vl rfl) (by omega) (by omega)) ?_
   refine Ch.y h2 rfl rfl rfl rfl rfl (ok_rd 0 rfl (rd_loadA rfl agg40 sz40 (vl rfl) (cells_atG (f := rowFc) (fun _ => rfl) (by omega)) rfl)) ?_
   refine Ch.y h2 rfl rfl rfl rfl rfl (ok_callc (_, _) rfl (vl rfl) ⟨ke rfl, ke rfl, trivial⟩) ?_
   refine Ch.y h2 rfl rfl rfl rfl rfl (ok_int rfl (vl rfl) (vl rfl) rfl) ?_
   refine Ch.oo rfl rfl rfl (ok_pick_t rfl (vl rfl) h2 (vl rfl)) ?_
   refine Ch.nil (Fin.go ?_)
   refine Tr.w7 0 1 2 3 8 9 34 rfl rfl rfl rfl rfl rfl rfl ?_
   refine Tr.cn rfl (fun h3 q3 => ?_) (fun h3 q3 => ?_)
   ·
    have := h3
    refine Tr.skip (Fin.go (Tr.seq (Tr.block ?_)))
    refine Tr.regX mixed [none, none, none, none, none, none, none, none, none, some (0, 0, false, 0), none, none, none, some (0, 0, false, 0), none, some (0, 0, true, 0), none, some (0, 0, true, 0)] (by kernel_rfl) ?_
    iterate 4 refine Cx.mv rfl rfl rfl rfl rfl ?_
    first
     | (refine Cx.oo rfl rfl rfl (fun _ => ok_sub rfl (vl rfl) (vl rfl) ?hin) ?_; case hin => unfold InI; omega)
     | refine Cx.oo rfl rfl rfl (fun _ => ok_int rfl (vl rfl) (vl rfl) rfl) ?_
    refine Cx.mv rfl rfl rfl rfl rfl ?_
    refine Cx.mv rfl rfl rfl rfl rfl ?_
    first
     | (refine Cx.oo rfl rfl rfl (fun _ => ok_sub rfl (vl rfl) (vl rfl) ?hin) ?_; case hin => unfold InI; omega)
     | refine Cx.oo rfl rfl rfl (fun _ => ok_int rfl (vl rfl) (vl rfl) rfl) ?_
    refine Cx.oo rfl rfl rfl (fun _ => okp_indexSl rfl Tryz.underlying29 sz40 (vl rfl) (vl rfl) (by omega) (by omega)) ?_
    refine Cx.rd 0 rfl rfl rfl (by decide) (rd_loadA rfl agg40 sz40 (vl rfl) (cells_atG (f := rowFc) (fun _ => rfl) (by omega)) rfl) ?_
    refine Cx.mv rfl rfl rfl rfl rfl ?_
    refine Cx.mv rfl rfl rfl rfl rfl ?_
    refine Cx.oo rfl rfl rfl (fun _ => okp_indexSl rfl Tryz.underlying29 sz40 (vl rfl) (vl rfl) (by omega) (by omega)) ?_
    refine Cx.rd 0 rfl rfl rfl (by decide) (rd_loadA rfl agg40 sz40 (vl rfl) (cells_atG (f := rowFc) (fun _ => rfl) (by omega)) rfl) ?_
    refine Cx.oo rfl rfl rfl (fun _ => okp_indexSl rfl Tryz.underlying29 sz40 (vl rfl) (vl rfl) (by omega) (by omega)) ?_
    refine Cx.ef0 0 rfl rfl (ef_store rfl rfl (vl rfl) (VL.le (vl rfl) (agg_cellsP _)) sz40 rfl (by rw [cells_len (sz := 8) (fun _ => rfl)]; first | omega | (simp only [List.length_set]; omega)) (cells_setG (f := rowFc) (fun _ => rfl) (by first | omega | (simp only [List.length_set]; omega)))) ?_
    refine Cx.oo rfl rfl rfl (fun _ => okp_indexSl rfl Tryz.underlying29 sz40 (vl rfl) (vl rfl) (by omega) (by omega)) ?_
    refine Cx.ef0 0 rfl rfl (ef_store rfl rfl (vl rfl) (VL.le (vl rfl) (agg_cellsP _)) sz40 rfl (by rw [cells_len (sz := 8) (fun _ => rfl)]; first | omega | (simp only [List.length_set]; omega)) (cells_setG (f := rowFc) (fun _ => rfl) (by first | omega | (simp only [List.length_set]; omega)))) ?_
    refine Cx.nil ⟨rfl, ?_⟩
    refine FinX.done (AllC.cons (AllC.cons (AllC.map _))) ?_
    refine Fin.block (Fin.go ?_)
    refine Tr.w6 0 1 2 3 8 9 rfl rfl rfl rfl rfl rfl ?_
    refine Tr.reg0 ?_
    refine Ch.mv rfl rfl rfl rfl rfl ?_
    first
     | (refine Ch.oo rfl rfl rfl (ok_sub rfl (vl rfl) (vl rfl) ?hin) ?_; case hin => unfold InI; omega)
     | refine Ch.oo rfl rfl rfl (ok_int rfl (vl rfl) (vl rfl) rfl) ?_
    refine Ch.as rfl rfl rfl rfl rfl ?_
    refine Ch.nil ?_
    exact Fin.famD2V0 (j - 1) (_)  (⟨⟨⟨by omega, by omega⟩, by simp only [List.length_set]; exact hsl2, by rw [ins_go h0 (by omega) rfl (by omega) (by omega) (by assumption)]; exact hso2⟩, by omega⟩) ⟨ke rfl, ke rfl, ke rfl, ke rfl, ke rfl, ke rfl, trivial⟩ (fun _ _ h => h)
   ·
    have := h3
    refine Tr.exit ?_
    refine Fin.then_exit ?_
    refine Fin.then_exit ?_
    refine Fin.block_here ?_
    refine Fin.block (Fin.go (Tr.reg0 ?_))
    refine Ch.mv rfl rfl rfl rfl rfl ?_
    first
     | (refine Ch.oo rfl rfl rfl (ok_add rfl (vl rfl) (vl rfl) ?hin) ?_; case hin => unfold InI; omega)
     | refine Ch.oo rfl rfl rfl (ok_int rfl (vl rfl) (vl rfl) rfl) ?_
    refine Ch.as rfl rfl rfl rfl rfl ?_
    refine Ch.nil ?_
    have hfin : st2.toArray = Go.Sort.insInner (ltc c) a.toNat j.toNat st2.toArray := by first | exact ins_stopA h0 (by omega) | exact ins_stopB h0 (by omega) rfl (by omega) (by omega) (Int.not_lt.2 (by assumption))
    exact Fin.famD2V0 (i + 1) (st2)  (⟨⟨by omega, hsl2, by rw [← hso, ← inso_go (by omega) hib, ← hso2]; exact congrArg _ hfin⟩, by omega⟩) ⟨ke rfl, ke rfl, ke rfl, ke rfl, ke rfl, trivial⟩ (fun _ _ h => h)
  ·
   iterate 12 refine Ch.nt h2 rfl rfl rfl rfl rfl ?_
   refine Ch.oo rfl rfl rfl (ok_pick_f rfl (vl rfl) h2 (vl rfl)) ?_
   refine Ch.nil (Fin.go ?_)
   refine Tr.w7 0 1 2 3 8 9 34 rfl rfl rfl rfl rfl rfl rfl ?_
   refine Tr.cond rfl (fun h => nomatch h) (fun _ => ?_)
   refine Tr.exit ?_
   refine Fin.then_exit ?_
   refine Fin.then_exit ?_
   refine Fin.block_here ?_
   refine Fin.block (Fin.go (Tr.reg0 ?_))
   refine Ch.mv rfl rfl rfl rfl rfl ?_
   first
    | (refine Ch.oo rfl rfl rfl (ok_add rfl (vl rfl) (vl rfl) ?hin) ?_; case hin => unfold InI; omega)
    | refine Ch.oo rfl rfl rfl (ok_int rfl (vl rfl) (vl rfl) rfl) ?_
   refine Ch.as rfl rfl rfl rfl rfl ?_
   refine Ch.nil ?_
   have hfin : st2.toArray = Go.Sort.insInner (ltc c) a.toNat j.toNat st2.toArray := by first | exact ins_stopA h0 (by omega) | exact ins_stopB h0 (by omega) rfl (by omega) (by omega) (Int.not_lt.2 (by assumption))
   exact Fin.famD2V0 (i + 1) (st2)  (⟨⟨by omega, hsl2, by rw [← hso, ← inso_go (by omega) hib, ← hso2]; exact congrArg _ hfin⟩, by omega⟩) ⟨ke rfl, ke rfl, ke rfl, ke rfl, ke rfl, trivial⟩ (fun _ _ h => h)
 ·
  have hib : ¬ i < b := of_decide_eq_false h1
  rw [inso_stop (by omega) hib] at hso
  refine Tr.exit ?_
  refine Fin.then_exit ?_
  refine Fin.then_exit ?_
  refine Fin.block_here ?_
  refine Fin.closeL (SortL c a b l) 0 rfl (by unfold SortL; rw [hso]; exact Go.Sort.insertionSort_holds hw l.toArray a.toNat b.toNat (by omega) (by simp only [List.size_toArray]; omega)) ?_
  exact Fin.retM0 rfl
set_option maxRecDepth 20000 in
theorem w_ssiftF {l : List Fct} {c : Fct × Fct → Int} {b0 cap len : Nat} {sp : List Value} {lo hi first : Int} (hln : l.length = len) (hll : len ≤ 1000000) (h0 : 0 ≤ lo) (hlo : lo ≤ len) (hf : 0 ≤ first) (hb : first + hi ≤ len) : FunM Tryz.prog 136 [is (.slice (some ⟨b0, 0, none⟩) len cap), int lo, int hi, int first, clo Tryz.prog (fun x : Fct × Fct => [agg (rowFc x.1), agg (rowFc x.2)]) (fun x => int (c x))] (unit_) (cellsRes true b0 40 ((l.map rowFc).flatten ++ sp.map is)) (fun _ => relRes b0 40 rowFc (SiftL c hi first lo l) (sp.map is)) := by
 refine FunM.of Tryz.func136 rfl rfl (by exact Nat.le_of_ble_eq_true rfl) fun M0 w0 S rs M1 w1 => ?_
 refine Tr.seq (Tr.reg0 ?_)
 refine Ch.mv rfl rfl rfl rfl rfl ?_
 refine Ch.as rfl rfl rfl rfl rfl ?_
 refine Ch.nil (Fin.go (Tr.block ?_))
 refine Tr.loopD2V0 [(0, _), (2, _), (3, _), (4, _)] ⟨ke rfl, ke rfl, ke rfl, ke rfl, trivial⟩ (fun (r : Int) (st : List Fct) => [(10, int r)]) (fun (r : Int) (st : List Fct) => Hp M0 w0 S (cellsRes true b0 40 ((st.map rowFc).flatten ++ sp.map is) :: extRes M1 w1 :: rs)) (fun (r : Int) (st : List Fct) => (0 ≤ r ∧ r ≤ 1000000) ∧ st.length = len ∧ Go.Sort.siftDown (ltc c) hi.toNat first.toNat r.toNat st.toArray = Go.Sort.siftDown (ltc c) hi.toNat first.toNat lo.toNat l.toArray) (fun (r : Int) (st : List Fct) => (hi - r).toNat) (lo) (l)  (⟨⟨by omega, by omega⟩, by omega, rfl⟩) ⟨ke rfl, trivial⟩ (fun _ _ h => h) ?_
 rintro r st  ⟨⟨h0r, hr2⟩, hsl, hso⟩
 refine Tr.block (Tr.seq (Tr.reg0 ?_))
 refine Ch.mv rfl rfl rfl rfl rfl ?_
 first
  | (refine Ch.oo rfl rfl rfl (ok_mul rfl (vl rfl) (vl rfl) ?hin) ?_; case hin => unfold InI; omega)
  | refine Ch.oo rfl rfl rfl (ok_int rfl (vl rfl) (vl rfl) rfl) ?_
 first
  | (refine Ch.oo rfl rfl rfl (ok_add rfl (vl rfl) (vl rfl) ?hin) ?_; case hin => unfold InI; omega)
  | refine Ch.oo rfl rfl rfl (ok_int rfl (vl rfl) (vl rfl) rfl) ?_
 refine Ch.as rfl rfl rfl rfl rfl ?_
 refine Ch.nil (Fin.go (Tr.seq (Tr.seq (Tr.reg0 ?_))))
 refine Ch.mv rfl rfl rfl rfl rfl ?_
 refine Ch.mv rfl rfl rfl rfl rfl ?_
 refine Ch.oo rfl rfl rfl (ok_int rfl (vl rfl) (vl rfl) rfl) ?_
 refine Ch.nil (Fin.go ?_)
 refine Tr.cn rfl (fun h1 q1 => ?_) (fun h1 q1 => ?_)
 ·
  refine Tr.exit ?_
  refine Fin.then_exit ?_
  refine Fin.block_on rfl ?_
  refine Fin.then_exit ?_
  refine Fin.block_here ?_
  refine Fin.closeL (SiftL c hi first lo l) 0 rfl (⟨by omega, by rw [← hso]; first | exact sift_end (by omega) (by omega) | exact sift_stopLa h0r hf (by omega) (by omega) (x := first + r) (y := first + (2 * r + 1)) rfl rfl (by omega) (by omega) (Int.not_lt.2 (by assumption)) | exact sift_stopLb h0r hf (by omega) (u := first + (2 * r + 1)) (v := first + (2 * r + 1) + 1) rfl rfl (by omega) (by omega) (Int.not_lt.2 (by assumption)) (x := first + r) (y := first + (2 * r + 1)) rfl rfl (by omega) (by omega) (Int.not_lt.2 (by assumption)) | exact sift_stopR h0r hf (by omega) (u := first + (2 * r + 1)) (v := first + (2 * r + 1) + 1) rfl rfl (by omega) (by omega) (by assumption) (x := first + r) (y := first + (2 * r + 1 + 1)) rfl rfl (by omega) (by omega) (Int.not_lt.2 (by assumption))⟩) ?_
  exact Fin.retM0 rfl
 ·
  refine Tr.skip (Fin.go (Tr.seq (Tr.seq ?_)))
  refine Tr.reg1 mixed (by kernel_rfl) ?_
  refine Ch.mv rfl rfl rfl rfl rfl ?_
  first
   | (refine Ch.oo rfl rfl rfl (ok_add rfl (vl rfl) (vl rfl) ?hin) ?_; case hin => unfold InI; omega)
   | refine Ch.oo rfl rfl rfl (ok_int rfl (vl rfl) (vl rfl) rfl) ?_
  refine Ch.mv rfl rfl rfl rfl rfl ?_
  refine Ch.oo rfl rfl rfl (ok_int rfl (vl rfl) (vl rfl) rfl) ?_
  refine Ch.mv rfl rfl rfl rfl rfl ?_
  refine Ch.cs 23 rfl (fun h2 q2 => ?_) (fun h2 q2 => ?_)
  ·
   iterate 4 refine Ch.ym h2 rfl rfl rfl rfl rfl rfl rfl ?_
   first
    | (refine Ch.y h2 rfl rfl rfl rfl rfl (ok_add rfl (vl rfl) (vl rfl) ?hin) ?_; case hin => unfold InI; omega)
    | refine Ch.y h2 rfl rfl rfl rfl rfl (ok_int rfl (vl rfl) (vl rfl) rfl) ?_
   refine Ch.y h2 rfl rfl rfl rfl rfl (okp_indexSl rfl Tryz.underlying29 sz40 (vl rfl) (vl rfl) (by omega) (by omega)) ?_
   refine Ch.y h2 rfl rfl rfl rfl rfl (ok_rd 0 rfl (rd_loadA rfl agg40 sz40 (vl rfl) (cells_atG (f := rowFc) (fun _ => rfl) (by omega)) rfl)) ?_
   iterate 3 refine Ch.ym h2 rfl rfl rfl rfl rfl rfl rfl ?_
   first
    | (refine Ch.y h2 rfl rfl rfl rfl rfl (ok_add rfl (vl rfl) (vl rfl) ?hin) ?_; case hin => unfold InI; omega)
    | refine Ch.y h2 rfl rfl rfl rfl rfl (ok_int rfl (vl rfl) (vl rfl) rfl) ?_
   first
    | (refine Ch.y h2 rfl rfl rfl rfl rfl (ok_add rfl (vl rfl) (vl rfl) ?hin) ?_; case hin => unfold InI; omega)
    | refine Ch.y h2 rfl rfl rfl rfl rfl (ok_int rfl (vl rfl) (vl rfl) rfl) ?_
   refine Ch.y h2 rfl rfl rfl rfl rfl (okp_indexSl rfl Tryz.underlying29 sz40 (vl rfl) (vl rfl) (by omega) (by omega)) ?_
   refine Ch.y h2 rfl rfl rfl rfl rfl (ok_rd 0 rfl (rd_loadA rfl agg40 sz40 (vl rfl) (cells_atG (f := rowFc) (fun _ => rfl) (by omega)) rfl)) ?_
   refine Ch.y h2 rfl rfl rfl rfl rfl (ok_callc (_, _) rfl (vl rfl) ⟨ke rfl, ke rfl, trivial⟩) ?_
   refine Ch.y h2 rfl rfl rfl rfl rfl (ok_int rfl (vl rfl) (vl rfl) rfl) ?_
   refine Ch.oo rfl rfl rfl (ok_pick_t rfl (vl rfl) h2 (vl rfl)) ?_
   refine Ch.nil (Fin.go ?_)
   refine Tr.w7 0 2 3 4 10 11 40 rfl rfl rfl rfl rfl rfl rfl ?_
   refine Tr.cn rfl (fun h3 q3 => ?_) (fun h3 q3 => ?_)
   ·
    refine Tr.reg0 ?_
    refine Ch.mv rfl rfl rfl rfl rfl ?_
    first
     | (refine Ch.oo rfl rfl rfl (ok_add rfl (vl rfl) (vl rfl) ?hin) ?_; case hin => unfold InI; omega)
     | refine Ch.oo rfl rfl rfl (ok_int rfl (vl rfl) (vl rfl) rfl) ?_
    refine Ch.as rfl rfl rfl rfl rfl ?_
    refine Ch.nil (Fin.go (Tr.seq (Tr.seq ?_)))
    refine Tr.reg1 mixed (by kernel_rfl) ?_
    iterate 4 refine Ch.mv rfl rfl rfl rfl rfl ?_
    first
     | (refine Ch.oo rfl rfl rfl (ok_add rfl (vl rfl) (vl rfl) ?hin) ?_; case hin => unfold InI; omega)
     | refine Ch.oo rfl rfl rfl (ok_int rfl (vl rfl) (vl rfl) rfl) ?_
    refine Ch.oo rfl rfl rfl (okp_indexSl rfl Tryz.underlying29 sz40 (vl rfl) (vl rfl) (by omega) (by omega)) ?_
    refine Ch.oo rfl rfl rfl (ok_rd 0 rfl (rd_loadA rfl agg40 sz40 (vl rfl) (cells_atG (f := rowFc) (fun _ => rfl) (by omega)) rfl)) ?_
    iterate 3 refine Ch.mv rfl rfl rfl rfl rfl ?_
    first
     | (refine Ch.oo rfl rfl rfl (ok_add rfl (vl rfl) (vl rfl) ?hin) ?_; case hin => unfold InI; omega)
     | refine Ch.oo rfl rfl rfl (ok_int rfl (vl rfl) (vl rfl) rfl) ?_
    refine Ch.oo rfl rfl rfl (okp_indexSl rfl Tryz.underlying29 sz40 (vl rfl) (vl rfl) (by omega) (by omega)) ?_
    refine Ch.oo rfl rfl rfl (ok_rd 0 rfl (rd_loadA rfl agg40 sz40 (vl rfl) (cells_atG (f := rowFc) (fun _ => rfl) (by omega)) rfl)) ?_
    refine Ch.oo rfl rfl rfl (ok_callc (_, _) rfl (vl rfl) ⟨ke rfl, ke rfl, trivial⟩) ?_
    refine Ch.oo rfl rfl rfl (ok_int rfl (vl rfl) (vl rfl) rfl) ?_
    refine Ch.oo rfl rfl rfl (ok_not rfl (vl rfl)) ?_
    refine Ch.nil (Fin.go ?_)
    refine Tr.w7 0 2 3 4 10 11 58 rfl rfl rfl rfl rfl rfl rfl ?_
    refine Tr.cn rfl (fun h4 q4 => ?_) (fun h4 q4 => ?_)
    ·
     refine Tr.ret ?_
     refine Fin.then_ret ?_
     refine Fin.block_ret ?_
     refine Fin.then_ret ?_
     refine Fin.block_ret ?_
     refine Fin.closeL (SiftL c hi first lo l) 0 rfl (⟨by omega, by rw [← hso]; first | exact sift_end (by omega) (by omega) | exact sift_stopLa h0r hf (by omega) (by omega) (x := first + r) (y := first + (2 * r + 1)) rfl rfl (by omega) (by omega) (Int.not_lt.2 (by assumption)) | exact sift_stopLb h0r hf (by omega) (u := first + (2 * r + 1)) (v := first + (2 * r + 1) + 1) rfl rfl (by omega) (by omega) (Int.not_lt.2 (by assumption)) (x := first + r) (y := first + (2 * r + 1)) rfl rfl (by omega) (by omega) (Int.not_lt.2 (by assumption)) | exact sift_stopR h0r hf (by omega) (u := first + (2 * r + 1)) (v := first + (2 * r + 1) + 1) rfl rfl (by omega) (by omega) (by assumption) (x := first + r) (y := first + (2 * r + 1 + 1)) rfl rfl (by omega) (by omega) (Int.not_lt.2 (by assumption))⟩) ?_
     exact Fin.retM0r rfl
    ·
     refine Tr.skip (Fin.go (Tr.seq ?_))
     refine Tr.regX mixed [none, none, none, none, none, none, none, none, none, none, none, none, none, some (0, 0, false, 0), none, none, none, none, none, some (0, 0, false, 0), none, some (0, 0, true, 0), none, some (0, 0, true, 0)] (by kernel_rfl) ?_
     iterate 3 refine Cx.mv rfl rfl rfl rfl rfl ?_
     first
      | (refine Cx.oo rfl rfl rfl (fun _ => ok_add rfl (vl rfl) (vl rfl) ?hin) ?_; case hin => unfold InI; omega)
      | refine Cx.oo rfl rfl rfl (fun _ => ok_int rfl (vl rfl) (vl rfl) rfl) ?_
     iterate 3 refine Cx.mv rfl rfl rfl rfl rfl ?_
     first
      | (refine Cx.oo rfl rfl rfl (fun _ => ok_add rfl (vl rfl) (vl rfl) ?hin) ?_; case hin => unfold InI; omega)
      | refine Cx.oo rfl rfl rfl (fun _ => ok_int rfl (vl rfl) (vl rfl) rfl) ?_
     iterate 3 refine Cx.mv rfl rfl rfl rfl rfl ?_
     first
      | (refine Cx.oo rfl rfl rfl (fun _ => ok_add rfl (vl rfl) (vl rfl) ?hin) ?_; case hin => unfold InI; omega)
      | refine Cx.oo rfl rfl rfl (fun _ => ok_int rfl (vl rfl) (vl rfl) rfl) ?_
     refine Cx.oo rfl rfl rfl (fun _ => okp_indexSl rfl Tryz.underlying29 sz40 (vl rfl) (vl rfl) (by omega) (by omega)) ?_
     refine Cx.rd 0 rfl rfl rfl (by decide) (rd_loadA rfl agg40 sz40 (vl rfl) (cells_atG (f := rowFc) (fun _ => rfl) (by omega)) rfl) ?_
     iterate 3 refine Cx.mv rfl rfl rfl rfl rfl ?_
     first
      | (refine Cx.oo rfl rfl rfl (fun _ => ok_add rfl (vl rfl) (vl rfl) ?hin) ?_; case hin => unfold InI; omega)
      | refine Cx.oo rfl rfl rfl (fun _ => ok_int rfl (vl rfl) (vl rfl) rfl) ?_
     refine Cx.oo rfl rfl rfl (fun _ => okp_indexSl rfl Tryz.underlying29 sz40 (vl rfl) (vl rfl) (by omega) (by omega)) ?_
     refine Cx.rd 0 rfl rfl rfl (by decide) (rd_loadA rfl agg40 sz40 (vl rfl) (cells_atG (f := rowFc) (fun _ => rfl) (by omega)) rfl) ?_
     refine Cx.oo rfl rfl rfl (fun _ => okp_indexSl rfl Tryz.underlying29 sz40 (vl rfl) (vl rfl) (by omega) (by omega)) ?_
     refine Cx.ef0 0 rfl rfl (ef_store rfl rfl (vl rfl) (VL.le (vl rfl) (agg_cellsP _)) sz40 rfl (by rw [cells_len (sz := 8) (fun _ => rfl)]; first | omega | (simp only [List.length_set]; omega)) (cells_setG (f := rowFc) (fun _ => rfl) (by first | omega | (simp only [List.length_set]; omega)))) ?_
     refine Cx.oo rfl rfl rfl (fun _ => okp_indexSl rfl Tryz.underlying29 sz40 (vl rfl) (vl rfl) (by omega) (by omega)) ?_
     refine Cx.ef0 0 rfl rfl (ef_store rfl rfl (vl rfl) (VL.le (vl rfl) (agg_cellsP _)) sz40 rfl (by rw [cells_len (sz := 8) (fun _ => rfl)]; first | omega | (simp only [List.length_set]; omega)) (cells_setG (f := rowFc) (fun _ => rfl) (by first | omega | (simp only [List.length_set]; omega)))) ?_
     refine Cx.nil ⟨rfl, ?_⟩
     refine FinX.done (AllC.cons (AllC.cons (AllC.map _))) ?_
     refine Fin.go ?_
     refine Tr.w5 0 2 3 4 11 rfl rfl rfl rfl rfl ?_
     refine Tr.reg0 ?_
     refine Ch.mv rfl rfl rfl rfl rfl ?_
     refine Ch.as rfl rfl rfl rfl rfl ?_
     refine Ch.nil (Fin.block ?_)
     exact Fin.famD2V0 (2 * r + 1 + 1) (_)  (⟨⟨⟨by omega, by omega⟩, by simp only [List.length_set]; exact hsl, by rw [← hso]; first | exact sift_goLa h0r hf (by omega) (by omega) (by omega) (by omega) (by omega) (by omega) (by assumption) | exact sift_goLb h0r hf (by omega) (u := first + (2 * r + 1)) (v := first + (2 * r + 1) + 1) rfl rfl (by omega) (by omega) (Int.not_lt.2 (by assumption)) (by omega) (by omega) (by omega) (by omega) (by assumption) | exact sift_goR h0r hf (by omega) (u := first + (2 * r + 1)) (v := first + (2 * r + 1) + 1) rfl rfl (by omega) (by omega) (by assumption) (by omega) (by omega) (by omega) (by omega) (by assumption)⟩, by omega⟩) ⟨ke rfl, ke rfl, ke rfl, ke rfl, ke rfl, trivial⟩ (fun _ _ h => h)
   ·
    refine Tr.skip (Fin.go (Tr.seq (Tr.seq ?_)))
    refine Tr.reg1 mixed (by kernel_rfl) ?_
    iterate 4 refine Ch.mv rfl rfl rfl rfl rfl ?_
    first
     | (refine Ch.oo rfl rfl rfl (ok_add rfl (vl rfl) (vl rfl) ?hin) ?_; case hin => unfold InI; omega)
     | refine Ch.oo rfl rfl rfl (ok_int rfl (vl rfl) (vl rfl) rfl) ?_
    refine Ch.oo rfl rfl rfl (okp_indexSl rfl Tryz.underlying29 sz40 (vl rfl) (vl rfl) (by omega) (by omega)) ?_
    refine Ch.oo rfl rfl rfl (ok_rd 0 rfl (rd_loadA rfl agg40 sz40 (vl rfl) (cells_atG (f := rowFc) (fun _ => rfl) (by omega)) rfl)) ?_
    iterate 3 refine Ch.mv rfl rfl rfl rfl rfl ?_
    first
     | (refine Ch.oo rfl rfl rfl (ok_add rfl (vl rfl) (vl rfl) ?hin) ?_; case hin => unfold InI; omega)
     | refine Ch.oo rfl rfl rfl (ok_int rfl (vl rfl) (vl rfl) rfl) ?_
    refine Ch.oo rfl rfl rfl (okp_indexSl rfl Tryz.underlying29 sz40 (vl rfl) (vl rfl) (by omega) (by omega)) ?_
    refine Ch.oo rfl rfl rfl (ok_rd 0 rfl (rd_loadA rfl agg40 sz40 (vl rfl) (cells_atG (f := rowFc) (fun _ => rfl) (by omega)) rfl)) ?_
    refine Ch.oo rfl rfl rfl (ok_callc (_, _) rfl (vl rfl) ⟨ke rfl, ke rfl, trivial⟩) ?_
    refine Ch.oo rfl rfl rfl (ok_int rfl (vl rfl) (vl rfl) rfl) ?_
    refine Ch.oo rfl rfl rfl (ok_not rfl (vl rfl)) ?_
    refine Ch.nil (Fin.go ?_)
    refine Tr.w7 0 2 3 4 10 11 58 rfl rfl rfl rfl rfl rfl rfl ?_
    refine Tr.cn rfl (fun h5 q5 => ?_) (fun h5 q5 => ?_)
    ·
     refine Tr.ret ?_
     refine Fin.then_ret ?_
     refine Fin.block_ret ?_
     refine Fin.then_ret ?_
     refine Fin.block_ret ?_
     refine Fin.closeL (SiftL c hi first lo l) 0 rfl (⟨by omega, by rw [← hso]; first | exact sift_end (by omega) (by omega) | exact sift_stopLa h0r hf (by omega) (by omega) (x := first + r) (y := first + (2 * r + 1)) rfl rfl (by omega) (by omega) (Int.not_lt.2 (by assumption)) | exact sift_stopLb h0r hf (by omega) (u := first + (2 * r + 1)) (v := first + (2 * r + 1) + 1) rfl rfl (by omega) (by omega) (Int.not_lt.2 (by assumption)) (x := first + r) (y := first + (2 * r + 1)) rfl rfl (by omega) (by omega) (Int.not_lt.2 (by assumption)) | exact sift_stopR h0r hf (by omega) (u := first + (2 * r + 1)) (v := first + (2 * r + 1) + 1) rfl rfl (by omega) (by omega) (by assumption) (x := first + r) (y := first + (2 * r + 1 + 1)) rfl rfl (by omega) (by omega) (Int.not_lt.2 (by assumption))⟩) ?_
     exact Fin.retM0r rfl
    ·
     refine Tr.skip (Fin.go (Tr.seq ?_))
     refine Tr.regX mixed [none, none, none, none, none, none, none, none, none, none, none, none, none, some (0, 0, false, 0), none, none, none, none, none, some (0, 0, false, 0), none, some (0, 0, true, 0), none, some (0, 0, true, 0)] (by kernel_rfl) ?_
     iterate 3 refine Cx.mv rfl rfl rfl rfl rfl ?_
     first
      | (refine Cx.oo rfl rfl rfl (fun _ => ok_add rfl (vl rfl) (vl rfl) ?hin) ?_; case hin => unfold InI; omega)
      | refine Cx.oo rfl rfl rfl (fun _ => ok_int rfl (vl rfl) (vl rfl) rfl) ?_
     iterate 3 refine Cx.mv rfl rfl rfl rfl rfl ?_
     first
      | (refine Cx.oo rfl rfl rfl (fun _ => ok_add rfl (vl rfl) (vl rfl) ?hin) ?_; case hin => unfold InI; omega)
      | refine Cx.oo rfl rfl rfl (fun _ => ok_int rfl (vl rfl) (vl rfl) rfl) ?_
     iterate 3 refine Cx.mv rfl rfl rfl rfl rfl ?_
     first
      | (refine Cx.oo rfl rfl rfl (fun _ => ok_add rfl (vl rfl) (vl rfl) ?hin) ?_; case hin => unfold InI; omega)
      | refine Cx.oo rfl rfl rfl (fun _ => ok_int rfl (vl rfl) (vl rfl) rfl) ?_
     refine Cx.oo rfl rfl rfl (fun _ => okp_indexSl rfl Tryz.underlying29 sz40 (vl rfl) (vl rfl) (by omega) (by omega)) ?_
     refine Cx.rd 0 rfl rfl rfl (by decide) (rd_loadA rfl agg40 sz40 (vl rfl) (cells_atG (f := rowFc) (fun _ => rfl) (by omega)) rfl) ?_
     iterate 3 refine Cx.mv rfl rfl rfl rfl rfl ?_
     first
      | (refine Cx.oo rfl rfl rfl (fun _ => ok_add rfl (vl rfl) (vl rfl) ?hin) ?_; case hin => unfold InI; omega)
      | refine Cx.oo rfl rfl rfl (fun _ => ok_int rfl (vl rfl) (vl rfl) rfl) ?_
     refine Cx.oo rfl rfl rfl (fun _ => okp_indexSl rfl Tryz.underlying29 sz40 (vl rfl) (vl rfl) (by omega) (by omega)) ?_
     refine Cx.rd 0 rfl rfl rfl (by decide) (rd_loadA rfl agg40 sz40 (vl rfl) (cells_atG (f := rowFc) (fun _ => rfl) (by omega)) rfl) ?_
     refine Cx.oo rfl rfl rfl (fun _ => okp_indexSl rfl Tryz.underlying29 sz40 (vl rfl) (vl rfl) (by omega) (by omega)) ?_
     refine Cx.ef0 0 rfl rfl (ef_store rfl rfl (vl rfl) (VL.le (vl rfl) (agg_cellsP _)) sz40 rfl (by rw [cells_len (sz := 8) (fun _ => rfl)]; first | omega | (simp only [List.length_set]; omega)) (cells_setG (f := rowFc) (fun _ => rfl) (by first | omega | (simp only [List.length_set]; omega)))) ?_
     refine Cx.oo rfl rfl rfl (fun _ => okp_indexSl rfl Tryz.underlying29 sz40 (vl rfl) (vl rfl) (by omega) (by omega)) ?_
     refine Cx.ef0 0 rfl rfl (ef_store rfl rfl (vl rfl) (VL.le (vl rfl) (agg_cellsP _)) sz40 rfl (by rw [cells_len (sz := 8) (fun _ => rfl)]; first | omega | (simp only [List.length_set]; omega)) (cells_setG (f := rowFc) (fun _ => rfl) (by first | omega | (simp only [List.length_set]; omega)))) ?_
     refine Cx.nil ⟨rfl, ?_⟩
     refine FinX.done (AllC.cons (AllC.cons (AllC.map _))) ?_
     refine Fin.go ?_
     refine Tr.w5 0 2 3 4 11 rfl rfl rfl rfl rfl ?_
     refine Tr.reg0 ?_
     refine Ch.mv rfl rfl rfl rfl rfl ?_
     refine Ch.as rfl rfl rfl rfl rfl ?_
     refine Ch.nil (Fin.block ?_)
     exact Fin.famD2V0 (2 * r + 1) (_)  (⟨⟨⟨by omega, by omega⟩, by simp only [List.length_set]; exact hsl, by rw [← hso]; first | exact sift_goLa h0r hf (by omega) (by omega) (by omega) (by omega) (by omega) (by omega) (by assumption) | exact sift_goLb h0r hf (by omega) (u := first + (2 * r + 1)) (v := first + (2 * r + 1) + 1) rfl rfl (by omega) (by omega) (Int.not_lt.2 (by assumption)) (by omega) (by omega) (by omega) (by omega) (by assumption) | exact sift_goR h0r hf (by omega) (u := first + (2 * r + 1)) (v := first + (2 * r + 1) + 1) rfl rfl (by omega) (by omega) (by assumption) (by omega) (by omega) (by omega) (by omega) (by assumption)⟩, by omega⟩) ⟨ke rfl, ke rfl, ke rfl, ke rfl, ke rfl, trivial⟩ (fun _ _ h => h)
  ·
   iterate 16 refine Ch.nt h2 rfl rfl rfl rfl rfl ?_
   refine Ch.oo rfl rfl rfl (ok_pick_f rfl (vl rfl) h2 (vl rfl)) ?_
   refine Ch.nil (Fin.go ?_)
   refine Tr.w7 0 2 3 4 10 11 40 rfl rfl rfl rfl rfl rfl rfl ?_
   refine Tr.cond rfl (fun h => nomatch h) (fun _ => ?_)
   refine Tr.skip (Fin.go (Tr.seq (Tr.seq ?_)))
   refine Tr.reg1 mixed (by kernel_rfl) ?_
   iterate 4 refine Ch.mv rfl rfl rfl rfl rfl ?_
   first
    | (refine Ch.oo rfl rfl rfl (ok_add rfl (vl rfl) (vl rfl) ?hin) ?_; case hin => unfold InI; omega)
    | refine Ch.oo rfl rfl rfl (ok_int rfl (vl rfl) (vl rfl) rfl) ?_
   refine Ch.oo rfl rfl rfl (okp_indexSl rfl Tryz.underlying29 sz40 (vl rfl) (vl rfl) (by omega) (by omega)) ?_
   refine Ch.oo rfl rfl rfl (ok_rd 0 rfl (rd_loadA rfl agg40 sz40 (vl rfl) (cells_atG (f := rowFc) (fun _ => rfl) (by omega)) rfl)) ?_
   iterate 3 refine Ch.mv rfl rfl rfl rfl rfl ?_
   first
    | (refine Ch.oo rfl rfl rfl (ok_add rfl (vl rfl) (vl rfl) ?hin) ?_; case hin => unfold InI; omega)
    | refine Ch.oo rfl rfl rfl (ok_int rfl (vl rfl) (vl rfl) rfl) ?_
   refine Ch.oo rfl rfl rfl (okp_indexSl rfl Tryz.underlying29 sz40 (vl rfl) (vl rfl) (by omega) (by omega)) ?_
   refine Ch.oo rfl rfl rfl (ok_rd 0 rfl (rd_loadA rfl agg40 sz40 (vl rfl) (cells_atG (f := rowFc) (fun _ => rfl) (by omega)) rfl)) ?_
   refine Ch.oo rfl rfl rfl (ok_callc (_, _) rfl (vl rfl) ⟨ke rfl, ke rfl, trivial⟩) ?_
   refine Ch.oo rfl rfl rfl (ok_int rfl (vl rfl) (vl rfl) rfl) ?_
   refine Ch.oo rfl rfl rfl (ok_not rfl (vl rfl)) ?_
   refine Ch.nil (Fin.go ?_)
   refine Tr.w7 0 2 3 4 10 11 58 rfl rfl rfl rfl rfl rfl rfl ?_
   refine Tr.cn rfl (fun h6 q6 => ?_) (fun h6 q6 => ?_)
   ·
    refine Tr.ret ?_
    refine Fin.then_ret ?_
    refine Fin.block_ret ?_
    refine Fin.then_ret ?_
    refine Fin.block_ret ?_
    refine Fin.closeL (SiftL c hi first lo l) 0 rfl (⟨by omega, by rw [← hso]; first | exact sift_end (by omega) (by omega) | exact sift_stopLa h0r hf (by omega) (by omega) (x := first + r) (y := first + (2 * r + 1)) rfl rfl (by omega) (by omega) (Int.not_lt.2 (by assumption)) | exact sift_stopLb h0r hf (by omega) (u := first + (2 * r + 1)) (v := first + (2 * r + 1) + 1) rfl rfl (by omega) (by omega) (Int.not_lt.2 (by assumption)) (x := first + r) (y := first + (2 * r + 1)) rfl rfl (by omega) (by omega) (Int.not_lt.2 (by assumption)) | exact sift_stopR h0r hf (by omega) (u := first + (2 * r + 1)) (v := first + (2 * r + 1) + 1) rfl rfl (by omega) (by omega) (by assumption) (x := first + r) (y := first + (2 * r + 1 + 1)) rfl rfl (by omega) (by omega) (Int.not_lt.2 (by assumption))⟩) ?_
    exact Fin.retM0r rfl
   ·
    refine Tr.skip (Fin.go (Tr.seq ?_))
    refine Tr.regX mixed [none, none, none, none, none, none, none, none, none, none, none, none, none, some (0, 0, false, 0), none, none, none, none, none, some (0, 0, false, 0), none, some (0, 0, true, 0), none, some (0, 0, true, 0)] (by kernel_rfl) ?_
    iterate 3 refine Cx.mv rfl rfl rfl rfl rfl ?_
    first
     | (refine Cx.oo rfl rfl rfl (fun _ => ok_add rfl (vl rfl) (vl rfl) ?hin) ?_; case hin => unfold InI; omega)
     | refine Cx.oo rfl rfl rfl (fun _ => ok_int rfl (vl rfl) (vl rfl) rfl) ?_
    iterate 3 refine Cx.mv rfl rfl rfl rfl rfl ?_
    first
     | (refine Cx.oo rfl rfl rfl (fun _ => ok_add rfl (vl rfl) (vl rfl) ?hin) ?_; case hin => unfold InI; omega)
     | refine Cx.oo rfl rfl rfl (fun _ => ok_int rfl (vl rfl) (vl rfl) rfl) ?_
    iterate 3 refine Cx.mv rfl rfl rfl rfl rfl ?_
    first
     | (refine Cx.oo rfl rfl rfl (fun _ => ok_add rfl (vl rfl) (vl rfl) ?hin) ?_; case hin => unfold InI; omega)
     | refine Cx.oo rfl rfl rfl (fun _ => ok_int rfl (vl rfl) (vl rfl) rfl) ?_
    refine Cx.oo rfl rfl rfl (fun _ => okp_indexSl rfl Tryz.underlying29 sz40 (vl rfl) (vl rfl) (by omega) (by omega)) ?_
    refine Cx.rd 0 rfl rfl rfl (by decide) (rd_loadA rfl agg40 sz40 (vl rfl) (cells_atG (f := rowFc) (fun _ => rfl) (by omega)) rfl) ?_
    iterate 3 refine Cx.mv rfl rfl rfl rfl rfl ?_
    first
     | (refine Cx.oo rfl rfl rfl (fun _ => ok_add rfl (vl rfl) (vl rfl) ?hin) ?_; case hin => unfold InI; omega)
     | refine Cx.oo rfl rfl rfl (fun _ => ok_int rfl (vl rfl) (vl rfl) rfl) ?_
    refine Cx.oo rfl rfl rfl (fun _ => okp_indexSl rfl Tryz.underlying29 sz40 (vl rfl) (vl rfl) (by omega) (by omega)) ?_
    refine Cx.rd 0 rfl rfl rfl (by decide) (rd_loadA rfl agg40 sz40 (vl rfl) (cells_atG (f := rowFc) (fun _ => rfl) (by omega)) rfl) ?_
    refine Cx.oo rfl rfl rfl (fun _ => okp_indexSl rfl Tryz.underlying29 sz40 (vl rfl) (vl rfl) (by omega) (by omega)) ?_
    refine Cx.ef0 0 rfl rfl (ef_store rfl rfl (vl rfl) (VL.le (vl rfl) (agg_cellsP _)) sz40 rfl (by rw [cells_len (sz := 8) (fun _ => rfl)]; first | omega | (simp only [List.length_set]; omega)) (cells_setG (f := rowFc) (fun _ => rfl) (by first | omega | (simp only [List.length_set]; omega)))) ?_
    refine Cx.oo rfl rfl rfl (fun _ => okp_indexSl rfl Tryz.underlying29 sz40 (vl rfl) (vl rfl) (by omega) (by omega)) ?_
    refine Cx.ef0 0 rfl rfl (ef_store rfl rfl (vl rfl) (VL.le (vl rfl) (agg_cellsP _)) sz40 rfl (by rw [cells_len (sz := 8) (fun _ => rfl)]; first | omega | (simp only [List.length_set]; omega)) (cells_setG (f := rowFc) (fun _ => rfl) (by first | omega | (simp only [List.length_set]; omega)))) ?_
    refine Cx.nil ⟨rfl, ?_⟩
    refine FinX.done (AllC.cons (AllC.cons (AllC.map _))) ?_
    refine Fin.go ?_
    refine Tr.w5 0 2 3 4 11 rfl rfl rfl rfl rfl ?_
    refine Tr.reg0 ?_
    refine Ch.mv rfl rfl rfl rfl rfl ?_
    refine Ch.as rfl rfl rfl rfl rfl ?_
    refine Ch.nil (Fin.block ?_)
    exact Fin.famD2V0 (2 * r + 1) (_)  (⟨⟨⟨by omega, by omega⟩, by simp only [List.length_set]; exact hsl, by rw [← hso]; first | exact sift_goLa h0r hf (by omega) (by omega) (by omega) (by omega) (by omega) (by omega) (by assumption) | exact sift_goLb h0r hf (by omega) (u := first + (2 * r + 1)) (v := first + (2 * r + 1) + 1) rfl rfl (by omega) (by omega) (Int.not_lt.2 (by assumption)) (by omega) (by omega) (by omega) (by omega) (by assumption) | exact sift_goR h0r hf (by omega) (u := first + (2 * r + 1)) (v := first + (2 * r + 1) + 1) rfl rfl (by omega) (by omega) (by assumption) (by omega) (by omega) (by omega) (by omega) (by assumption)⟩, by omega⟩) ⟨ke rfl, ke rfl, ke rfl, ke rfl, ke rfl, trivial⟩ (fun _ _ h => h)
set_option maxRecDepth 20000 in
theorem w_sheapF {l : List Fct} {c : Fct × Fct → Int} {b0 cap len : Nat} {sp : List Value} {a b : Int} (hln : l.length = len) (hll : len ≤ 1000000) (hw : Go.Sort.SWO (ltc c)) (h0 : 0 ≤ a) (hab : a ≤ b) (hb : b ≤ len) : FunM Tryz.prog 106 [is (.slice (some ⟨b0, 0, none⟩) len cap), int a, int b, clo Tryz.prog (fun x : Fct × Fct => [agg (rowFc x.1), agg (rowFc x.2)]) (fun x => int (c x))] (unit_) (cellsRes true b0 40 ((l.map rowFc).flatten ++ sp.map is)) (fun _ => relRes b0 40 rowFc (SortL c a b l) (sp.map is)) := by
 refine FunM.of Tryz.func106 rfl rfl (by exact Nat.le_of_ble_eq_true rfl) fun M0 w0 S rs M1 w1 => ?_
 have hq : IntKind.i64.wrap ((b - a - 1).tdiv 2) = (((b.toNat - a.toNat - 1) / 2 : Nat) : Int) := heap_half (by omega) (by omega) (by omega)
 refine Tr.seq (Tr.reg0 ?_)
 refine Ch.mv rfl rfl rfl rfl rfl ?_
 refine Ch.as rfl rfl rfl rfl rfl ?_
 refine Ch.nil (Fin.go (Tr.seq (Tr.reg0 ?_)))
 refine Ch.as rfl rfl rfl rfl rfl ?_
 refine Ch.nil (Fin.go (Tr.seq (Tr.reg0 ?_)))
 refine Ch.mv rfl rfl rfl rfl rfl ?_
 refine Ch.mv rfl rfl rfl rfl rfl ?_
 first
  | (refine Ch.oo rfl rfl rfl (ok_sub rfl (vl rfl) (vl rfl) ?hin) ?_; case hin => unfold InI; omega)
  | refine Ch.oo rfl rfl rfl (ok_int rfl (vl rfl) (vl rfl) rfl) ?_
 refine Ch.as rfl rfl rfl rfl rfl ?_
 refine Ch.nil (Fin.go (Tr.seq (Tr.seq (Tr.reg0 ?_))))
 refine Ch.mv rfl rfl rfl rfl rfl ?_
 first
  | (refine Ch.oo rfl rfl rfl (ok_sub rfl (vl rfl) (vl rfl) ?hin) ?_; case hin => unfold InI; omega)
  | refine Ch.oo rfl rfl rfl (ok_int rfl (vl rfl) (vl rfl) rfl) ?_
 refine Ch.oo rfl rfl rfl (ok_quo rfl (vl rfl) (vl rfl) (by omega)) ?_
 refine Ch.as rfl rfl rfl rfl rfl ?_
 refine Ch.nil (Fin.go (Tr.block ?_))
 refine Tr.loopD2V0 [(0, _), (3, _), (8, _), (9, _), (10, _)] ⟨ke rfl, ke rfl, ke rfl, ke rfl, ke rfl, trivial⟩ (fun (i : Int) (st : List Fct) => [(11, int i)]) (fun (i : Int) (st : List Fct) => Hp M0 w0 S (cellsRes true b0 40 ((st.map rowFc).flatten ++ sp.map is) :: extRes M1 w1 :: rs)) (fun (i : Int) (st : List Fct) => (-1 ≤ i ∧ i ≤ b - a) ∧ st.length = len ∧ Go.Sort.heapBuild (ltc c) (b - a).toNat a.toNat (i + 1).toNat st.toArray = Go.Sort.heapBuild (ltc c) (b - a).toNat a.toNat ((b.toNat - a.toNat - 1) / 2 + 1) l.toArray) (fun (i : Int) (st : List Fct) => (i + 1).toNat) ((((b.toNat - a.toNat - 1) / 2 : Nat) : Int)) (l)  (⟨⟨by omega, by omega⟩, by omega, by rw [show ((((b.toNat - a.toNat - 1) / 2 : Nat) : Int) + 1).toNat = (b.toNat - a.toNat - 1) / 2 + 1 by omega]⟩) ⟨⟨_, rfl, int_eq hq⟩, trivial⟩ (fun _ _ h => h) ?_
 rintro i st  ⟨⟨hi1, hi2⟩, hsl, hso⟩
 refine Tr.seq (Tr.seq (Tr.reg0 ?_))
 refine Ch.mv rfl rfl rfl rfl rfl ?_
 refine Ch.oo rfl rfl rfl (ok_int rfl (vl rfl) (vl rfl) rfl) ?_
 refine Ch.nil (Fin.go ?_)
 refine Tr.cn rfl (fun h1 q1 => ?_) (fun h1 q1 => ?_)
 ·
  have hib : 0 ≤ i := of_decide_eq_true h1
  refine Tr.skip (Fin.go (Tr.seq (Tr.block (Tr.regT ?_))))
  iterate 5 refine TO.mv rfl rfl rfl rfl rfl ?_
  refine TO.efc 0 rfl rfl (by decide) (ef_callc rfl rfl (by decide) rfl (w_ssiftF (by first | omega | (simp only [List.length_set]; omega)) (by omega) (by omega) (by omega) (by omega) (by omega)) ⟨ke rfl, ke rfl, ke rfl, ke rfl, ke rfl, trivial⟩) ?_
  refine TO.openL 0 rfl fun t1 hp1 => ?_
  have hpl1 := hp1.len
  refine TO.nil (Fin.block (Fin.go ?_))
  refine Tr.w6 0 3 8 9 10 11 rfl rfl rfl rfl rfl rfl ?_
  refine Tr.reg0 ?_
  refine Ch.mv rfl rfl rfl rfl rfl ?_
  first
   | (refine Ch.oo rfl rfl rfl (ok_sub rfl (vl rfl) (vl rfl) ?hin) ?_; case hin => unfold InI; omega)
   | refine Ch.oo rfl rfl rfl (ok_int rfl (vl rfl) (vl rfl) rfl) ?_
  refine Ch.as rfl rfl rfl rfl rfl ?_
  refine Ch.nil ?_
  exact Fin.famD2V0 (i - 1) (t1)  (⟨⟨⟨by omega, by omega⟩, by omega, by rw [hp1.2]; exact (build_go hib).trans hso⟩, by omega⟩) ⟨ke rfl, ke rfl, ke rfl, ke rfl, ke rfl, ke rfl, trivial⟩ (fun _ _ h => h)
 ·
  have hib : ¬ 0 ≤ i := of_decide_eq_false h1
  rw [build_end hib] at hso
  refine Tr.exit ?_
  refine Fin.then_exit ?_
  refine Fin.then_exit ?_
  refine Fin.block_here ?_
  refine Fin.go (Tr.seq (Tr.reg0 ?_))
  refine Ch.mv rfl rfl rfl rfl rfl ?_
  first
   | (refine Ch.oo rfl rfl rfl (ok_sub rfl (vl rfl) (vl rfl) ?hin) ?_; case hin => unfold InI; omega)
   | refine Ch.oo rfl rfl rfl (ok_int rfl (vl rfl) (vl rfl) rfl) ?_
  refine Ch.as rfl rfl rfl rfl rfl ?_
  refine Ch.nil (Fin.go (Tr.block ?_))
  refine Tr.loopD2V0 [(0, _), (3, _), (8, _), (9, _)] ⟨ke rfl, ke rfl, ke rfl, ke rfl, trivial⟩ (fun (i2 : Int) (st2 : List Fct) => [(12, int i2)]) (fun (i2 : Int) (st2 : List Fct) => Hp M0 w0 S (cellsRes true b0 40 ((st2.map rowFc).flatten ++ sp.map is) :: extRes M1 w1 :: rs)) (fun (i2 : Int) (st2 : List Fct) => (-1 ≤ i2 ∧ i2 < b - a) ∧ st2.length = len ∧ Go.Sort.heapPop (ltc c) a.toNat (i2 + 1).toNat st2.toArray = Go.Sort.heapPop (ltc c) a.toNat (b - a).toNat st.toArray) (fun (i2 : Int) (st2 : List Fct) => (i2 + 1).toNat) (b - a - 1) (st)  (⟨⟨by omega, by omega⟩, by omega, by rw [show (b - a - 1 + 1).toNat = (b - a).toNat by omega]⟩) ⟨ke rfl, trivial⟩ (fun _ _ h => h) ?_
  rintro i2 st2  ⟨⟨hj1, hj2⟩, hsl2, hso2⟩
  refine Tr.seq (Tr.seq (Tr.reg0 ?_))
  refine Ch.mv rfl rfl rfl rfl rfl ?_
  refine Ch.oo rfl rfl rfl (ok_int rfl (vl rfl) (vl rfl) rfl) ?_
  refine Ch.nil (Fin.go ?_)
  refine Tr.cn rfl (fun h2 q2 => ?_) (fun h2 q2 => ?_)
  ·
   have hib2 : 0 ≤ i2 := of_decide_eq_true h2
   refine Tr.skip (Fin.go (Tr.seq (Tr.block (Tr.seq ?_))))
   refine Tr.regX mixed [none, none, none, none, none, none, none, none, none, none, none, some (0, 0, false, 0), none, none, none, some (0, 0, false, 0), none, some (0, 0, true, 0), none, some (0, 0, true, 0)] (by kernel_rfl) ?_
   iterate 5 refine Cx.mv rfl rfl rfl rfl rfl ?_
   first
    | (refine Cx.oo rfl rfl rfl (fun _ => ok_add rfl (vl rfl) (vl rfl) ?hin) ?_; case hin => unfold InI; omega)
    | refine Cx.oo rfl rfl rfl (fun _ => ok_int rfl (vl rfl) (vl rfl) rfl) ?_
   iterate 3 refine Cx.mv rfl rfl rfl rfl rfl ?_
   first
    | (refine Cx.oo rfl rfl rfl (fun _ => ok_add rfl (vl rfl) (vl rfl) ?hin) ?_; case hin => unfold InI; omega)
    | refine Cx.oo rfl rfl rfl (fun _ => ok_int rfl (vl rfl) (vl rfl) rfl) ?_
   refine Cx.oo rfl rfl rfl (fun _ => okp_indexSl rfl Tryz.underlying29 sz40 (vl rfl) (vl rfl) (by omega) (by omega)) ?_
   refine Cx.rd 0 rfl rfl rfl (by decide) (rd_loadA rfl agg40 sz40 (vl rfl) (cells_atG (f := rowFc) (fun _ => rfl) (by omega)) rfl) ?_
   refine Cx.mv rfl rfl rfl rfl rfl ?_
   refine Cx.mv rfl rfl rfl rfl rfl ?_
   refine Cx.oo rfl rfl rfl (fun _ => okp_indexSl rfl Tryz.underlying29 sz40 (vl rfl) (vl rfl) (by omega) (by omega)) ?_
   refine Cx.rd 0 rfl rfl rfl (by decide) (rd_loadA rfl agg40 sz40 (vl rfl) (cells_atG (f := rowFc) (fun _ => rfl) (by omega)) rfl) ?_
   refine Cx.oo rfl rfl rfl (fun _ => okp_indexSl rfl Tryz.underlying29 sz40 (vl rfl) (vl rfl) (by omega) (by omega)) ?_
   refine Cx.ef0 0 rfl rfl (ef_store rfl rfl (vl rfl) (VL.le (vl rfl) (agg_cellsP _)) sz40 rfl (by rw [cells_len (sz := 8) (fun _ => rfl)]; first | omega | (simp only [List.length_set]; omega)) (cells_setG (f := rowFc) (fun _ => rfl) (by first | omega | (simp only [List.length_set]; omega)))) ?_
   refine Cx.oo rfl rfl rfl (fun _ => okp_indexSl rfl Tryz.underlying29 sz40 (vl rfl) (vl rfl) (by omega) (by omega)) ?_
   refine Cx.ef0 0 rfl rfl (ef_store rfl rfl (vl rfl) (VL.le (vl rfl) (agg_cellsP _)) sz40 rfl (by rw [cells_len (sz := 8) (fun _ => rfl)]; first | omega | (simp only [List.length_set]; omega)) (cells_setG (f := rowFc) (fun _ => rfl) (by first | omega | (simp only [List.length_set]; omega)))) ?_
   refine Cx.nil ⟨rfl, ?_⟩
   refine FinX.done (AllC.cons (AllC.cons (AllC.map _))) ?_
   refine Fin.go ?_
   refine Tr.w5 0 3 8 9 12 rfl rfl rfl rfl rfl ?_
   refine Tr.regT ?_
   iterate 5 refine TO.mv rfl rfl rfl rfl rfl ?_
   refine TO.efc 0 rfl rfl (by decide) (ef_callc rfl rfl (by decide) rfl (w_ssiftF (by first | omega | (simp only [List.length_set]; omega)) (by omega) (by omega) (by omega) (by omega) (by omega)) ⟨ke rfl, ke rfl, ke rfl, ke rfl, ke rfl, trivial⟩) ?_
   refine TO.openL 0 rfl fun t2 hp2 => ?_
   have hpl2 := hp2.len
   refine TO.nil (Fin.block (Fin.go (Tr.reg0 ?_)))
   refine Ch.mv rfl rfl rfl rfl rfl ?_
   first
    | (refine Ch.oo rfl rfl rfl (ok_sub rfl (vl rfl) (vl rfl) ?hin) ?_; case hin => unfold InI; omega)
    | refine Ch.oo rfl rfl rfl (ok_int rfl (vl rfl) (vl rfl) rfl) ?_
   refine Ch.as rfl rfl rfl rfl rfl ?_
   refine Ch.nil ?_
   exact Fin.famD2V0 (i2 - 1) (t2)  (⟨⟨⟨by omega, by omega⟩, by simp only [List.length_set] at hpl2; omega, by rw [hp2.2, sw (by omega) (by omega), show (a + i2).toNat = a.toNat + i2.toNat by omega]; exact (pop_go hib2).trans hso2⟩, by omega⟩) ⟨ke rfl, ke rfl, ke rfl, ke rfl, ke rfl, trivial⟩ (fun _ _ h => h)
  ·
   have hib2 : ¬ 0 ≤ i2 := of_decide_eq_false h2
   rw [pop_end hib2] at hso2
   refine Tr.exit ?_
   refine Fin.then_exit ?_
   refine Fin.then_exit ?_
   refine Fin.block_here ?_
   refine Fin.closeL (SortL c a b l) 0 rfl (by unfold SortL; rw [hso2, hso]; exact heap_holds hw l.toArray h0 hab (by simp only [List.size_toArray]; omega)) ?_
   exact Fin.retM0 rfl
set_option maxRecDepth 20000 in
theorem w_srevF {l : List Fct} {c : Fct × Fct → Int} {b0 cap len : Nat} {sp : List Value} {a b : Int} (hln : l.length = len) (hll : len ≤ 1000000) (h0 : 0 ≤ a) (hab : a < b) (hb : b ≤ len) : FunM Tryz.prog 109 [is (.slice (some ⟨b0, 0, none⟩) len cap), int a, int b, clo Tryz.prog (fun x : Fct × Fct => [agg (rowFc x.1), agg (rowFc x.2)]) (fun x => int (c x))] (unit_) (cellsRes true b0 40 ((l.map rowFc).flatten ++ sp.map is)) (fun _ => relRes b0 40 rowFc (PermL a b l) (sp.map is)) := by
 refine FunM.of Tryz.func109 rfl rfl (by exact Nat.le_of_ble_eq_true rfl) fun M0 w0 S rs M1 w1 => ?_
 refine Tr.seq (Tr.reg0 ?_)
 refine Ch.mv rfl rfl rfl rfl rfl ?_
 refine Ch.as rfl rfl rfl rfl rfl ?_
 refine Ch.nil (Fin.go (Tr.seq (Tr.reg0 ?_)))
 refine Ch.mv rfl rfl rfl rfl rfl ?_
 first
  | (refine Ch.oo rfl rfl rfl (ok_sub rfl (vl rfl) (vl rfl) ?hin) ?_; case hin => unfold InI; omega)
  | refine Ch.oo rfl rfl rfl (ok_int rfl (vl rfl) (vl rfl) rfl) ?_
 refine Ch.as rfl rfl rfl rfl rfl ?_
 refine Ch.nil (Fin.go (Tr.block ?_))
 refine Tr.loopD3V0 [(0, _)] ⟨ke rfl, trivial⟩ (fun (i : Int) (j : Int) (st : List Fct) => [(8, int i), (9, int j)]) (fun (i : Int) (j : Int) (st : List Fct) => Hp M0 w0 S (cellsRes true b0 40 ((st.map rowFc).flatten ++ sp.map is) :: extRes M1 w1 :: rs)) (fun (i : Int) (j : Int) (st : List Fct) => (a ≤ i ∧ j < b ∧ -1 ≤ j ∧ i ≤ b) ∧ st.length = len ∧ PermL a b l st) (fun (i : Int) (j : Int) (st : List Fct) => (j - i).toNat) (a) (b - 1) (l)  (⟨⟨by omega, by omega, by omega, by omega⟩, by omega, PermL.refl _ _ _⟩) ⟨ke rfl, ke rfl, trivial⟩ (fun _ _ h => h) ?_
 rintro i j st  ⟨⟨hi1, hi2, hi3, hi4⟩, hsl, hso⟩
 refine Tr.seq (Tr.seq (Tr.reg0 ?_))
 refine Ch.mv rfl rfl rfl rfl rfl ?_
 refine Ch.mv rfl rfl rfl rfl rfl ?_
 refine Ch.oo rfl rfl rfl (ok_int rfl (vl rfl) (vl rfl) rfl) ?_
 refine Ch.nil (Fin.go ?_)
 refine Tr.cn rfl (fun h1 q1 => ?_) (fun h1 q1 => ?_)
 ·
  have hij : i < j := of_decide_eq_true h1
  refine Tr.skip (Fin.go (Tr.block (Tr.seq ?_)))
  refine Tr.regX mixed [none, none, none, none, none, none, none, some (0, 0, false, 0), none, none, none, some (0, 0, false, 0), none, some (0, 0, true, 0), none, some (0, 0, true, 0)] (by kernel_rfl) ?_
  iterate 6 refine Cx.mv rfl rfl rfl rfl rfl ?_
  refine Cx.oo rfl rfl rfl (fun _ => okp_indexSl rfl Tryz.underlying29 sz40 (vl rfl) (vl rfl) (by omega) (by omega)) ?_
  refine Cx.rd 0 rfl rfl rfl (by decide) (rd_loadA rfl agg40 sz40 (vl rfl) (cells_atG (f := rowFc) (fun _ => rfl) (by omega)) rfl) ?_
  refine Cx.mv rfl rfl rfl rfl rfl ?_
  refine Cx.mv rfl rfl rfl rfl rfl ?_
  refine Cx.oo rfl rfl rfl (fun _ => okp_indexSl rfl Tryz.underlying29 sz40 (vl rfl) (vl rfl) (by omega) (by omega)) ?_
  refine Cx.rd 0 rfl rfl rfl (by decide) (rd_loadA rfl agg40 sz40 (vl rfl) (cells_atG (f := rowFc) (fun _ => rfl) (by omega)) rfl) ?_
  refine Cx.oo rfl rfl rfl (fun _ => okp_indexSl rfl Tryz.underlying29 sz40 (vl rfl) (vl rfl) (by omega) (by omega)) ?_
  refine Cx.ef0 0 rfl rfl (ef_store rfl rfl (vl rfl) (VL.le (vl rfl) (agg_cellsP _)) sz40 rfl (by rw [cells_len (sz := 8) (fun _ => rfl)]; first | omega | (simp only [List.length_set]; omega)) (cells_setG (f := rowFc) (fun _ => rfl) (by first | omega | (simp only [List.length_set]; omega)))) ?_
  refine Cx.oo rfl rfl rfl (fun _ => okp_indexSl rfl Tryz.underlying29 sz40 (vl rfl) (vl rfl) (by omega) (by omega)) ?_
  refine Cx.ef0 0 rfl rfl (ef_store rfl rfl (vl rfl) (VL.le (vl rfl) (agg_cellsP _)) sz40 rfl (by rw [cells_len (sz := 8) (fun _ => rfl)]; first | omega | (simp only [List.length_set]; omega)) (cells_setG (f := rowFc) (fun _ => rfl) (by first | omega | (simp only [List.length_set]; omega)))) ?_
  refine Cx.nil ⟨rfl, ?_⟩
  refine FinX.done (AllC.cons (AllC.cons (AllC.map _))) ?_
  refine Fin.go ?_
  refine Tr.w3 0 8 9 rfl rfl rfl ?_
  refine Tr.seq (Tr.reg0 ?_)
  refine Ch.mv rfl rfl rfl rfl rfl ?_
  first
   | (refine Ch.oo rfl rfl rfl (ok_add rfl (vl rfl) (vl rfl) ?hin) ?_; case hin => unfold InI; omega)
   | refine Ch.oo rfl rfl rfl (ok_int rfl (vl rfl) (vl rfl) rfl) ?_
  refine Ch.as rfl rfl rfl rfl rfl ?_
  refine Ch.nil (Fin.go (Tr.reg0 ?_))
  refine Ch.mv rfl rfl rfl rfl rfl ?_
  first
   | (refine Ch.oo rfl rfl rfl (ok_sub rfl (vl rfl) (vl rfl) ?hin) ?_; case hin => unfold InI; omega)
   | refine Ch.oo rfl rfl rfl (ok_int rfl (vl rfl) (vl rfl) rfl) ?_
  refine Ch.as rfl rfl rfl rfl rfl ?_
  refine Ch.nil (Fin.block ?_)
  exact Fin.famD3V0 (i + 1) (j - 1) (_)  (⟨⟨⟨by omega, by omega, by omega, by omega⟩, by simp only [List.length_set]; exact hsl, hso.swap (by omega) (by omega) (by omega) (by omega) (by omega) (by omega) (by omega)⟩, by omega⟩) ⟨ke rfl, ke rfl, ke rfl, trivial⟩ (fun _ _ h => h)
 ·
  have := h1
  refine Tr.exit ?_
  refine Fin.then_exit ?_
  refine Fin.then_exit ?_
  refine Fin.block_here ?_
  refine Fin.closeL (PermL a b l) 0 rfl (hso) ?_
  exact Fin.retM0 rfl
set_option maxRecDepth 20000 in
theorem w_speqF {l : List Fct} {c : Fct × Fct → Int} {b0 cap len : Nat} {sp : List Value} {a b pv : Int} (hln : l.length = len) (hll : len ≤ 1000000) (h0 : 0 ≤ a) (hab : a < b) (hb : b ≤ len) (hp1 : a ≤ pv) (hp2 : pv < b) : FunM Tryz.prog 111 [is (.slice (some ⟨b0, 0, none⟩) len cap), int a, int b, int pv, clo Tryz.prog (fun x : Fct × Fct => [agg (rowFc x.1), agg (rowFc x.2)]) (fun x => int (c x))] (int ((PE c a b pv l).1 : Nat)) (cellsRes true b0 40 ((l.map rowFc).flatten ++ sp.map is)) (fun _ => relRes b0 40 rowFc (PartE c a b pv l) (sp.map is)) := by
 refine FunM.of Tryz.func111 rfl rfl (by exact Nat.le_of_ble_eq_true rfl) fun M0 w0 S rs M1 w1 => ?_
 have hal : a.toNat < l.length := by omega
 have hpv : pv.toNat < l.length := by omega
 refine Tr.seq (Tr.reg0 ?_)
 refine Ch.as rfl rfl rfl rfl rfl ?_
 refine Ch.nil (Fin.go (Tr.seq ?_))
 refine Tr.regX mixed [none, none, none, none, none, none, none, some (0, 0, false, 0), none, none, none, some (0, 0, false, 0), none, some (0, 0, true, 0), none, some (0, 0, true, 0)] (by kernel_rfl) ?_
 iterate 6 refine Cx.mv rfl rfl rfl rfl rfl ?_
 refine Cx.oo rfl rfl rfl (fun _ => okp_indexSl rfl Tryz.underlying29 sz40 (vl rfl) (vl rfl) (by omega) (by omega)) ?_
 refine Cx.rd 0 rfl rfl rfl (by decide) (rd_loadA rfl agg40 sz40 (vl rfl) (cells_atG (f := rowFc) (fun _ => rfl) (by omega)) rfl) ?_
 refine Cx.mv rfl rfl rfl rfl rfl ?_
 refine Cx.mv rfl rfl rfl rfl rfl ?_
 refine Cx.oo rfl rfl rfl (fun _ => okp_indexSl rfl Tryz.underlying29 sz40 (vl rfl) (vl rfl) (by omega) (by omega)) ?_
 refine Cx.rd 0 rfl rfl rfl (by decide) (rd_loadA rfl agg40 sz40 (vl rfl) (cells_atG (f := rowFc) (fun _ => rfl) (by omega)) rfl) ?_
 refine Cx.oo rfl rfl rfl (fun _ => okp_indexSl rfl Tryz.underlying29 sz40 (vl rfl) (vl rfl) (by omega) (by omega)) ?_
 refine Cx.ef0 0 rfl rfl (ef_store rfl rfl (vl rfl) (VL.le (vl rfl) (agg_cellsP _)) sz40 rfl (by rw [cells_len (sz := 8) (fun _ => rfl)]; first | omega | (simp only [List.length_set]; omega)) (cells_setG (f := rowFc) (fun _ => rfl) (by first | omega | (simp only [List.length_set]; omega)))) ?_
 refine Cx.oo rfl rfl rfl (fun _ => okp_indexSl rfl Tryz.underlying29 sz40 (vl rfl) (vl rfl) (by omega) (by omega)) ?_
 refine Cx.ef0 0 rfl rfl (ef_store rfl rfl (vl rfl) (VL.le (vl rfl) (agg_cellsP _)) sz40 rfl (by rw [cells_len (sz := 8) (fun _ => rfl)]; first | omega | (simp only [List.length_set]; omega)) (cells_setG (f := rowFc) (fun _ => rfl) (by first | omega | (simp only [List.length_set]; omega)))) ?_
 refine Cx.nil ⟨rfl, ?_⟩
 refine FinX.done (AllC.cons (AllC.cons (AllC.map _))) ?_
 refine Fin.go ?_
 refine Tr.w4 0 1 2 4 rfl rfl rfl rfl ?_
 refine Tr.seq (Tr.reg0 ?_)
 refine Ch.mv rfl rfl rfl rfl rfl ?_
 first
  | (refine Ch.oo rfl rfl rfl (ok_add rfl (vl rfl) (vl rfl) ?hin) ?_; case hin => unfold InI; omega)
  | refine Ch.oo rfl rfl rfl (ok_int rfl (vl rfl) (vl rfl) rfl) ?_
 refine Ch.mv rfl rfl rfl rfl rfl ?_
 first
  | (refine Ch.oo rfl rfl rfl (ok_sub rfl (vl rfl) (vl rfl) ?hin) ?_; case hin => unfold InI; omega)
  | refine Ch.oo rfl rfl rfl (ok_int rfl (vl rfl) (vl rfl) rfl) ?_
 refine Ch.as rfl rfl rfl rfl rfl ?_
 refine Ch.as rfl rfl rfl rfl rfl ?_
 refine Ch.nil (Fin.go (Tr.seq (Tr.block ?_)))
 refine Tr.loopD3V0 [(0, _), (1, _), (4, _)] ⟨ke rfl, ke rfl, ke rfl, trivial⟩ (fun (i : Int) (j : Int) (st : List Fct) => [(11, int i), (12, int j)]) (fun (i : Int) (j : Int) (st : List Fct) => Hp M0 w0 S (cellsRes true b0 40 ((st.map rowFc).flatten ++ sp.map is) :: extRes M1 w1 :: rs)) (fun (i : Int) (j : Int) (st : List Fct) => ((a < i ∧ i ≤ b) ∧ a ≤ j ∧ j < b) ∧ st.length = len ∧ PLe c a i j st.toArray = PE c a b pv l) (fun (i : Int) (j : Int) (st : List Fct) => (j - i + 2).toNat) (a + 1) (b - 1) (((l.set a.toNat (l[pv.toNat]'hpv)).set pv.toNat (l[a.toNat]'hal)))  (⟨⟨⟨by omega, by omega⟩, by omega, by omega⟩, by simp only [List.length_set]; exact hln, pe_start h0 hab hal hpv⟩) ⟨ke rfl, ke rfl, trivial⟩ (fun _ _ h => h) ?_
 rintro i j st  ⟨⟨⟨hi1, hi2⟩, hj1, hj2⟩, hsl, hso⟩
 refine Tr.block ?_
 refine Tr.w5 0 1 4 11 12 rfl rfl rfl rfl rfl ?_
 refine Tr.cutk [0, 1, 4, 12] [(11, ex fun y : Int => fact ((i ≤ y ∧ y ≤ b) ∧ True ∧ y.toNat = Go.Sort.scanUp (qU c st.toArray a) st.toArray (j).toNat (i).toNat) (int y))] (True) ?_ (fun h1 => ?_)
 ·
  refine Tr.block ?_
  refine Tr.loopw [(0, _), (1, _), (4, _), (12, _)] ⟨ke rfl, ke rfl, ke rfl, ke rfl, trivial⟩ (fun y : Int => [(11, int y)]) (fun y : Int => (i ≤ y ∧ y ≤ b) ∧ Go.Sort.scanUp (qU c st.toArray a) st.toArray (j).toNat (y).toNat = Go.Sort.scanUp (qU c st.toArray a) st.toArray (j).toNat (i).toNat) (fun y : Int => (b - y).toNat) i (⟨⟨by omega, by omega⟩, rfl⟩) ⟨ke rfl, trivial⟩ ?_
  rintro y ⟨⟨hscAa, hscAb⟩, hscAc⟩
  refine Tr.seq (Tr.seq ?_)
  refine Tr.reg1 mixed (by kernel_rfl) ?_
  refine Ch.mv rfl rfl rfl rfl rfl ?_
  refine Ch.mv rfl rfl rfl rfl rfl ?_
  refine Ch.oo rfl rfl rfl (ok_int rfl (vl rfl) (vl rfl) rfl) ?_
  refine Ch.mv rfl rfl rfl rfl rfl ?_
  refine Ch.cs 34 rfl (fun h2 q2 => ?_) (fun h2 q2 => ?_)
  ·
   iterate 3 refine Ch.ym h2 rfl rfl rfl rfl rfl rfl rfl ?_
   refine Ch.y h2 rfl rfl rfl rfl rfl (okp_indexSl rfl Tryz.underlying29 sz40 (vl rfl) (vl rfl) (by omega) (by omega)) ?_
   refine Ch.y h2 rfl rfl rfl rfl rfl (ok_rd 0 rfl (rd_loadA rfl agg40 sz40 (vl rfl) (cells_atG (f := rowFc) (fun _ => rfl) (by omega)) rfl)) ?_
   refine Ch.ym h2 rfl rfl rfl rfl rfl rfl rfl ?_
   refine Ch.ym h2 rfl rfl rfl rfl rfl rfl rfl ?_
   refine Ch.y h2 rfl rfl rfl rfl rfl (okp_indexSl rfl Tryz.underlying29 sz40 (vl rfl) (vl rfl) (by omega) (by omega)) ?_
   refine Ch.y h2 rfl rfl rfl rfl rfl (ok_rd 0 rfl (rd_loadA rfl agg40 sz40 (vl rfl) (cells_atG (f := rowFc) (fun _ => rfl) (by omega)) rfl)) ?_
   refine Ch.y h2 rfl rfl rfl rfl rfl (ok_callc (_, _) rfl (vl rfl) ⟨ke rfl, ke rfl, trivial⟩) ?_
   refine Ch.y h2 rfl rfl rfl rfl rfl (ok_int rfl (vl rfl) (vl rfl) rfl) ?_
   refine Ch.y h2 rfl rfl rfl rfl rfl (ok_not rfl (vl rfl)) ?_
   refine Ch.oo rfl rfl rfl (ok_pick_t rfl (vl rfl) h2 (vl rfl)) ?_
   refine Ch.nil (Fin.go ?_)
   refine Tr.w6 0 1 4 11 12 47 rfl rfl rfl rfl rfl rfl ?_
   refine Tr.cn rfl (fun h3 q3 => ?_) (fun h3 q3 => ?_)
   ·
    have := h3
    refine Tr.skip (Fin.go (Tr.block (Tr.reg0 ?_)))
    refine Ch.mv rfl rfl rfl rfl rfl ?_
    first
     | (refine Ch.oo rfl rfl rfl (ok_add rfl (vl rfl) (vl rfl) ?hin) ?_; case hin => unfold InI; omega)
     | refine Ch.oo rfl rfl rfl (ok_int rfl (vl rfl) (vl rfl) rfl) ?_
    refine Ch.as rfl rfl rfl rfl rfl ?_
    refine Ch.nil (Fin.block ?_)
    exact Fin.fam_same (y + 1) ⟨⟨⟨by omega, by omega⟩, by rw [su_go (by omega) (by omega) (by omega) (qU_t (by omega) (by omega) (Int.not_lt.2 (by assumption)))]; exact hscAc⟩, by omega⟩ ⟨ke rfl, ke rfl, ke rfl, ke rfl, ke rfl, trivial⟩
   ·
    have := h3
    refine Tr.exit ?_
    refine Fin.then_exit ?_
    refine Fin.then_exit ?_
    refine Fin.block_here ?_
    exact Fin.fam_same () trivial ⟨⟨_, rfl, ex_in _ (fact_in ⟨⟨by omega, by omega⟩, trivial, by rw [← hscAc]; first | exact (su_stopA (by omega) (by omega)).symm | exact (su_stopB (by omega) (qU_f (by omega) (by omega) (by assumption))).symm⟩ (Pr.le_refl _))⟩, ke rfl, ke rfl, ke rfl, ke rfl, trivial⟩
  ·
   iterate 12 refine Ch.nt h2 rfl rfl rfl rfl rfl ?_
   refine Ch.oo rfl rfl rfl (ok_pick_f rfl (vl rfl) h2 (vl rfl)) ?_
   refine Ch.nil (Fin.go ?_)
   refine Tr.w6 0 1 4 11 12 47 rfl rfl rfl rfl rfl rfl ?_
   refine Tr.cond rfl (fun h => nomatch h) (fun _ => ?_)
   refine Tr.exit ?_
   refine Fin.then_exit ?_
   refine Fin.then_exit ?_
   refine Fin.block_here ?_
   exact Fin.fam_same () trivial ⟨⟨_, rfl, ex_in _ (fact_in ⟨⟨by omega, by omega⟩, trivial, by rw [← hscAc]; first | exact (su_stopA (by omega) (by omega)).symm | exact (su_stopB (by omega) (qU_f (by omega) (by omega) (by assumption))).symm⟩ (Pr.le_refl _))⟩, ke rfl, ke rfl, ke rfl, ke rfl, trivial⟩
 ·
  refine Tr.ex 11 rfl (fun i2 => Tr.fact 11 rfl fun hci2 => ?_)
  obtain ⟨hci2a, hci2b, hci2c⟩ := hci2
  refine Tr.w5 0 1 4 11 12 rfl rfl rfl rfl rfl ?_
  refine Tr.cutk [0, 1, 4, 11] [(12, ex fun y : Int => fact ((a ≤ y ∧ y ≤ j) ∧ True ∧ y.toNat = Go.Sort.scanDown (qD c st.toArray a) st.toArray (i2).toNat (j).toNat) (int y))] (True) ?_ (fun h4 => ?_)
  ·
   refine Tr.block ?_
   refine Tr.loopw [(0, _), (1, _), (4, _), (11, _)] ⟨ke rfl, ke rfl, ke rfl, ke rfl, trivial⟩ (fun y : Int => [(12, int y)]) (fun y : Int => (a ≤ y ∧ y ≤ j) ∧ Go.Sort.scanDown (qD c st.toArray a) st.toArray (i2).toNat (y).toNat = Go.Sort.scanDown (qD c st.toArray a) st.toArray (i2).toNat (j).toNat) (fun y : Int => (y - a).toNat) j (⟨⟨by omega, by omega⟩, rfl⟩) ⟨ke rfl, trivial⟩ ?_
   rintro y ⟨⟨hscBa, hscBb⟩, hscBc⟩
   refine Tr.seq (Tr.seq ?_)
   refine Tr.reg1 mixed (by kernel_rfl) ?_
   refine Ch.mv rfl rfl rfl rfl rfl ?_
   refine Ch.mv rfl rfl rfl rfl rfl ?_
   refine Ch.oo rfl rfl rfl (ok_int rfl (vl rfl) (vl rfl) rfl) ?_
   refine Ch.mv rfl rfl rfl rfl rfl ?_
   refine Ch.cs 53 rfl (fun h5 q5 => ?_) (fun h5 q5 => ?_)
   ·
    iterate 3 refine Ch.ym h5 rfl rfl rfl rfl rfl rfl rfl ?_
    refine Ch.y h5 rfl rfl rfl rfl rfl (okp_indexSl rfl Tryz.underlying29 sz40 (vl rfl) (vl rfl) (by omega) (by omega)) ?_
    refine Ch.y h5 rfl rfl rfl rfl rfl (ok_rd 0 rfl (rd_loadA rfl agg40 sz40 (vl rfl) (cells_atG (f := rowFc) (fun _ => rfl) (by omega)) rfl)) ?_
    refine Ch.ym h5 rfl rfl rfl rfl rfl rfl rfl ?_
    refine Ch.ym h5 rfl rfl rfl rfl rfl rfl rfl ?_
    refine Ch.y h5 rfl rfl rfl rfl rfl (okp_indexSl rfl Tryz.underlying29 sz40 (vl rfl) (vl rfl) (by omega) (by omega)) ?_
    refine Ch.y h5 rfl rfl rfl rfl rfl (ok_rd 0 rfl (rd_loadA rfl agg40 sz40 (vl rfl) (cells_atG (f := rowFc) (fun _ => rfl) (by omega)) rfl)) ?_
    refine Ch.y h5 rfl rfl rfl rfl rfl (ok_callc (_, _) rfl (vl rfl) ⟨ke rfl, ke rfl, trivial⟩) ?_
    refine Ch.y h5 rfl rfl rfl rfl rfl (ok_int rfl (vl rfl) (vl rfl) rfl) ?_
    refine Ch.oo rfl rfl rfl (ok_pick_t rfl (vl rfl) h5 (vl rfl)) ?_
    refine Ch.nil (Fin.go ?_)
    refine Tr.w6 0 1 4 11 12 65 rfl rfl rfl rfl rfl rfl ?_
    refine Tr.cn rfl (fun h6 q6 => ?_) (fun h6 q6 => ?_)
    ·
     have := h6
     refine Tr.skip (Fin.go (Tr.block (Tr.reg0 ?_)))
     refine Ch.mv rfl rfl rfl rfl rfl ?_
     first
      | (refine Ch.oo rfl rfl rfl (ok_sub rfl (vl rfl) (vl rfl) ?hin) ?_; case hin => unfold InI; omega)
      | refine Ch.oo rfl rfl rfl (ok_int rfl (vl rfl) (vl rfl) rfl) ?_
     refine Ch.as rfl rfl rfl rfl rfl ?_
     refine Ch.nil (Fin.block ?_)
     exact Fin.fam_same (y - 1) ⟨⟨⟨by omega, by omega⟩, by rw [sd_go (by omega) (by omega) (by omega) (qD_t (by omega) (by omega) (by assumption))]; exact hscBc⟩, by omega⟩ ⟨ke rfl, ke rfl, ke rfl, ke rfl, ke rfl, trivial⟩
    ·
     have := h6
     refine Tr.exit ?_
     refine Fin.then_exit ?_
     refine Fin.then_exit ?_
     refine Fin.block_here ?_
     exact Fin.fam_same () trivial ⟨⟨_, rfl, ex_in _ (fact_in ⟨⟨by omega, by omega⟩, trivial, by rw [← hscBc]; first | exact (sd_stopA (by omega) (by omega)).symm | exact (sd_stopB (by omega) (qD_f (by omega) (by omega) (Int.not_lt.2 (by assumption)))).symm⟩ (Pr.le_refl _))⟩, ke rfl, ke rfl, ke rfl, ke rfl, trivial⟩
   ·
    iterate 11 refine Ch.nt h5 rfl rfl rfl rfl rfl ?_
    refine Ch.oo rfl rfl rfl (ok_pick_f rfl (vl rfl) h5 (vl rfl)) ?_
    refine Ch.nil (Fin.go ?_)
    refine Tr.w6 0 1 4 11 12 65 rfl rfl rfl rfl rfl rfl ?_
    refine Tr.cond rfl (fun h => nomatch h) (fun _ => ?_)
    refine Tr.exit ?_
    refine Fin.then_exit ?_
    refine Fin.then_exit ?_
    refine Fin.block_here ?_
    exact Fin.fam_same () trivial ⟨⟨_, rfl, ex_in _ (fact_in ⟨⟨by omega, by omega⟩, trivial, by rw [← hscBc]; first | exact (sd_stopA (by omega) (by omega)).symm | exact (sd_stopB (by omega) (qD_f (by omega) (by omega) (Int.not_lt.2 (by assumption)))).symm⟩ (Pr.le_refl _))⟩, ke rfl, ke rfl, ke rfl, ke rfl, trivial⟩
  ·
   refine Tr.ex 12 rfl (fun j2 => Tr.fact 12 rfl fun hcj2 => ?_)
   obtain ⟨hcj2a, hcj2b, hcj2c⟩ := hcj2
   refine Tr.seq (Tr.seq (Tr.reg0 ?_))
   refine Ch.mv rfl rfl rfl rfl rfl ?_
   refine Ch.mv rfl rfl rfl rfl rfl ?_
   refine Ch.oo rfl rfl rfl (ok_int rfl (vl rfl) (vl rfl) rfl) ?_
   refine Ch.nil (Fin.go ?_)
   refine Tr.cn rfl (fun h7 q7 => ?_) (fun h7 q7 => ?_)
   ·
    refine Tr.exit ?_
    refine Fin.then_exit ?_
    refine Fin.block_on rfl ?_
    refine Fin.then_exit ?_
    refine Fin.block_here ?_
    refine Fin.go (Tr.seq (Tr.reg0 ?_))
    refine Ch.mv rfl rfl rfl rfl rfl ?_
    refine Ch.as rfl rfl rfl rfl rfl ?_
    refine Ch.nil (Fin.go (Tr.ret ?_))
    refine Fin.closeL (PartE c a b pv l) 0 rfl (⟨by omega, by rw [hso.symm.trans (peq_stop hci2c hcj2c (by omega) (by omega))]⟩) ?_
    have hE := hso.symm.trans (peq_stop hci2c hcj2c (by omega) (by omega))
    refine Fin.retM1 rfl rfl ?_ (fun _ _ _ _ => rfl)
    · exact int_eq (by rw [hE]; show i2 = ((i2.toNat : Nat) : Int); omega)
   ·
    refine Tr.skip (Fin.go (Tr.seq ?_))
    refine Tr.regX mixed [none, none, none, none, none, none, none, some (0, 0, false, 0), none, none, none, some (0, 0, false, 0), none, some (0, 0, true, 0), none, some (0, 0, true, 0)] (by kernel_rfl) ?_
    iterate 6 refine Cx.mv rfl rfl rfl rfl rfl ?_
    refine Cx.oo rfl rfl rfl (fun _ => okp_indexSl rfl Tryz.underlying29 sz40 (vl rfl) (vl rfl) (by omega) (by omega)) ?_
    refine Cx.rd 0 rfl rfl rfl (by decide) (rd_loadA rfl agg40 sz40 (vl rfl) (cells_atG (f := rowFc) (fun _ => rfl) (by omega)) rfl) ?_
    refine Cx.mv rfl rfl rfl rfl rfl ?_
    refine Cx.mv rfl rfl rfl rfl rfl ?_
    refine Cx.oo rfl rfl rfl (fun _ => okp_indexSl rfl Tryz.underlying29 sz40 (vl rfl) (vl rfl) (by omega) (by omega)) ?_
    refine Cx.rd 0 rfl rfl rfl (by decide) (rd_loadA rfl agg40 sz40 (vl rfl) (cells_atG (f := rowFc) (fun _ => rfl) (by omega)) rfl) ?_
    refine Cx.oo rfl rfl rfl (fun _ => okp_indexSl rfl Tryz.underlying29 sz40 (vl rfl) (vl rfl) (by omega) (by omega)) ?_
    refine Cx.ef0 0 rfl rfl (ef_store rfl rfl (vl rfl) (VL.le (vl rfl) (agg_cellsP _)) sz40 rfl (by rw [cells_len (sz := 8) (fun _ => rfl)]; first | omega | (simp only [List.length_set]; omega)) (cells_setG (f := rowFc) (fun _ => rfl) (by first | omega | (simp only [List.length_set]; omega)))) ?_
    refine Cx.oo rfl rfl rfl (fun _ => okp_indexSl rfl Tryz.underlying29 sz40 (vl rfl) (vl rfl) (by omega) (by omega)) ?_
    refine Cx.ef0 0 rfl rfl (ef_store rfl rfl (vl rfl) (VL.le (vl rfl) (agg_cellsP _)) sz40 rfl (by rw [cells_len (sz := 8) (fun _ => rfl)]; first | omega | (simp only [List.length_set]; omega)) (cells_setG (f := rowFc) (fun _ => rfl) (by first | omega | (simp only [List.length_set]; omega)))) ?_
    refine Cx.nil ⟨rfl, ?_⟩
    refine FinX.done (AllC.cons (AllC.cons (AllC.map _))) ?_
    refine Fin.go ?_
    refine Tr.w5 0 1 4 11 12 rfl rfl rfl rfl rfl ?_
    refine Tr.seq (Tr.reg0 ?_)
    refine Ch.mv rfl rfl rfl rfl rfl ?_
    first
     | (refine Ch.oo rfl rfl rfl (ok_add rfl (vl rfl) (vl rfl) ?hin) ?_; case hin => unfold InI; omega)
     | refine Ch.oo rfl rfl rfl (ok_int rfl (vl rfl) (vl rfl) rfl) ?_
    refine Ch.as rfl rfl rfl rfl rfl ?_
    refine Ch.nil (Fin.go (Tr.reg0 ?_))
    refine Ch.mv rfl rfl rfl rfl rfl ?_
    first
     | (refine Ch.oo rfl rfl rfl (ok_sub rfl (vl rfl) (vl rfl) ?hin) ?_; case hin => unfold InI; omega)
     | refine Ch.oo rfl rfl rfl (ok_int rfl (vl rfl) (vl rfl) rfl) ?_
    refine Ch.as rfl rfl rfl rfl rfl ?_
    refine Ch.nil (Fin.block ?_)
    exact Fin.famD3V0 (i2 + 1) (j2 - 1) (_)  (⟨⟨⟨⟨by omega, by omega⟩, by omega, by omega⟩, by simp only [List.length_set]; exact hsl, (peq_go hci2c hcj2c (by omega) (by omega) (by omega) (by omega)).trans hso⟩, by omega⟩) ⟨ke rfl, ke rfl, ke rfl, ke rfl, ke rfl, trivial⟩ (fun _ _ h => h)
set_option maxRecDepth 20000 in
set_option maxHeartbeats 1000000 in
theorem w_spartF {l : List Fct} {c : Fct × Fct → Int} {b0 cap len : Nat} {sp : List Value} {a b pv : Int} (hln : l.length = len) (hll : len ≤ 1000000) (h0 : 0 ≤ a) (hab : a < b) (hb : b ≤ len) (hp1 : a ≤ pv) (hp2 : pv < b) : FunM Tryz.prog 112 [is (.slice (some ⟨b0, 0, none⟩) len cap), int a, int b, int pv, clo Tryz.prog (fun x : Fct × Fct => [agg (rowFc x.1), agg (rowFc x.2)]) (fun x => int (c x))] (ex fun z : Bool => fact True (tup [int ((PA c a b pv l).1 : Nat), bool z])) (cellsRes true b0 40 ((l.map rowFc).flatten ++ sp.map is)) (fun _ => relRes b0 40 rowFc (PartL c a b pv l) (sp.map is)) := by
 refine FunM.of Tryz.func112 rfl rfl (by exact Nat.le_of_ble_eq_true rfl) fun M0 w0 S rs M1 w1 => ?_
 have hal : a.toNat < l.length := by omega
 have hpv : pv.toNat < l.length := by omega
 have hS1 : ((l.set a.toNat (l[pv.toNat]'hpv)).set pv.toNat (l[a.toNat]'hal)).length = len := by simp only [List.length_set]; exact hln
 refine Tr.seq (Tr.reg0 ?_)
 refine Ch.as rfl rfl rfl rfl rfl ?_
 refine Ch.as rfl rfl rfl rfl rfl ?_
 refine Ch.nil (Fin.go (Tr.seq ?_))
 refine Tr.regX mixed [none, none, none, none, none, none, none, some (0, 0, false, 0), none, none, none, some (0, 0, false, 0), none, some (0, 0, true, 0), none, some (0, 0, true, 0)] (by kernel_rfl) ?_
 iterate 6 refine Cx.mv rfl rfl rfl rfl rfl ?_
 refine Cx.oo rfl rfl rfl (fun _ => okp_indexSl rfl Tryz.underlying29 sz40 (vl rfl) (vl rfl) (by omega) (by omega)) ?_
 refine Cx.rd 0 rfl rfl rfl (by decide) (rd_loadA rfl agg40 sz40 (vl rfl) (cells_atG (f := rowFc) (fun _ => rfl) (by omega)) rfl) ?_
 refine Cx.mv rfl rfl rfl rfl rfl ?_
 refine Cx.mv rfl rfl rfl rfl rfl ?_
 refine Cx.oo rfl rfl rfl (fun _ => okp_indexSl rfl Tryz.underlying29 sz40 (vl rfl) (vl rfl) (by omega) (by omega)) ?_
 refine Cx.rd 0 rfl rfl rfl (by decide) (rd_loadA rfl agg40 sz40 (vl rfl) (cells_atG (f := rowFc) (fun _ => rfl) (by omega)) rfl) ?_
 refine Cx.oo rfl rfl rfl (fun _ => okp_indexSl rfl Tryz.underlying29 sz40 (vl rfl) (vl rfl) (by omega) (by omega)) ?_
 refine Cx.ef0 0 rfl rfl (ef_store rfl rfl (vl rfl) (VL.le (vl rfl) (agg_cellsP _)) sz40 rfl (by rw [cells_len (sz := 8) (fun _ => rfl)]; first | omega | (simp only [List.length_set]; omega)) (cells_setG (f := rowFc) (fun _ => rfl) (by first | omega | (simp only [List.length_set]; omega)))) ?_
 refine Cx.oo rfl rfl rfl (fun _ => okp_indexSl rfl Tryz.underlying29 sz40 (vl rfl) (vl rfl) (by omega) (by omega)) ?_
 refine Cx.ef0 0 rfl rfl (ef_store rfl rfl (vl rfl) (VL.le (vl rfl) (agg_cellsP _)) sz40 rfl (by rw [cells_len (sz := 8) (fun _ => rfl)]; first | omega | (simp only [List.length_set]; omega)) (cells_setG (f := rowFc) (fun _ => rfl) (by first | omega | (simp only [List.length_set]; omega)))) ?_
 refine Cx.nil ⟨rfl, ?_⟩
 refine FinX.done (AllC.cons (AllC.cons (AllC.map _))) ?_
 refine Fin.go ?_
 refine Tr.w4 0 1 2 4 rfl rfl rfl rfl ?_
 refine Tr.seq (Tr.reg0 ?_)
 refine Ch.mv rfl rfl rfl rfl rfl ?_
 first
  | (refine Ch.oo rfl rfl rfl (ok_add rfl (vl rfl) (vl rfl) ?hin) ?_; case hin => unfold InI; omega)
  | refine Ch.oo rfl rfl rfl (ok_int rfl (vl rfl) (vl rfl) rfl) ?_
 refine Ch.mv rfl rfl rfl rfl rfl ?_
 first
  | (refine Ch.oo rfl rfl rfl (ok_sub rfl (vl rfl) (vl rfl) ?hin) ?_; case hin => unfold InI; omega)
  | refine Ch.oo rfl rfl rfl (ok_int rfl (vl rfl) (vl rfl) rfl) ?_
 refine Ch.as rfl rfl rfl rfl rfl ?_
 refine Ch.as rfl rfl rfl rfl rfl ?_
 refine Ch.nil (Fin.go ?_)
 refine Tr.w5 0 1 4 12 13 rfl rfl rfl rfl rfl ?_
 refine Tr.cutk [0, 1, 4, 13] [(12, ex fun y : Int => fact (((a + 1) ≤ y ∧ y ≤ b) ∧ True ∧ y.toNat = Go.Sort.scanUp (pU c ((l.set a.toNat (l[pv.toNat]'hpv)).set pv.toNat (l[a.toNat]'hal)).toArray a) ((l.set a.toNat (l[pv.toNat]'hpv)).set pv.toNat (l[a.toNat]'hal)).toArray ((b - 1)).toNat ((a + 1)).toNat) (int y))] (True) ?_ (fun h1 => ?_)
 ·
  refine Tr.block ?_
  refine Tr.loopw [(0, _), (1, _), (4, _), (13, _)] ⟨ke rfl, ke rfl, ke rfl, ke rfl, trivial⟩ (fun y : Int => [(12, int y)]) (fun y : Int => ((a + 1) ≤ y ∧ y ≤ b) ∧ Go.Sort.scanUp (pU c ((l.set a.toNat (l[pv.toNat]'hpv)).set pv.toNat (l[a.toNat]'hal)).toArray a) ((l.set a.toNat (l[pv.toNat]'hpv)).set pv.toNat (l[a.toNat]'hal)).toArray ((b - 1)).toNat (y).toNat = Go.Sort.scanUp (pU c ((l.set a.toNat (l[pv.toNat]'hpv)).set pv.toNat (l[a.toNat]'hal)).toArray a) ((l.set a.toNat (l[pv.toNat]'hpv)).set pv.toNat (l[a.toNat]'hal)).toArray ((b - 1)).toNat ((a + 1)).toNat) (fun y : Int => (b - y).toNat) (a + 1) (⟨⟨by omega, by omega⟩, rfl⟩) ⟨ke rfl, trivial⟩ ?_
  rintro y ⟨⟨hscAa, hscAb⟩, hscAc⟩
  refine Tr.seq (Tr.seq ?_)
  refine Tr.reg1 mixed (by kernel_rfl) ?_
  refine Ch.mv rfl rfl rfl rfl rfl ?_
  refine Ch.mv rfl rfl rfl rfl rfl ?_
  refine Ch.oo rfl rfl rfl (ok_int rfl (vl rfl) (vl rfl) rfl) ?_
  refine Ch.mv rfl rfl rfl rfl rfl ?_
  refine Ch.cs 35 rfl (fun h2 q2 => ?_) (fun h2 q2 => ?_)
  ·
   iterate 3 refine Ch.ym h2 rfl rfl rfl rfl rfl rfl rfl ?_
   refine Ch.y h2 rfl rfl rfl rfl rfl (okp_indexSl rfl Tryz.underlying29 sz40 (vl rfl) (vl rfl) (by omega) (by omega)) ?_
   refine Ch.y h2 rfl rfl rfl rfl rfl (ok_rd 0 rfl (rd_loadA rfl agg40 sz40 (vl rfl) (cells_atG (f := rowFc) (fun _ => rfl) (by omega)) rfl)) ?_
   refine Ch.ym h2 rfl rfl rfl rfl rfl rfl rfl ?_
   refine Ch.ym h2 rfl rfl rfl rfl rfl rfl rfl ?_
   refine Ch.y h2 rfl rfl rfl rfl rfl (okp_indexSl rfl Tryz.underlying29 sz40 (vl rfl) (vl rfl) (by omega) (by omega)) ?_
   refine Ch.y h2 rfl rfl rfl rfl rfl (ok_rd 0 rfl (rd_loadA rfl agg40 sz40 (vl rfl) (cells_atG (f := rowFc) (fun _ => rfl) (by omega)) rfl)) ?_
   refine Ch.y h2 rfl rfl rfl rfl rfl (ok_callc (_, _) rfl (vl rfl) ⟨ke rfl, ke rfl, trivial⟩) ?_
   refine Ch.y h2 rfl rfl rfl rfl rfl (ok_int rfl (vl rfl) (vl rfl) rfl) ?_
   refine Ch.oo rfl rfl rfl (ok_pick_t rfl (vl rfl) h2 (vl rfl)) ?_
   refine Ch.nil (Fin.go ?_)
   refine Tr.w6 0 1 4 12 13 47 rfl rfl rfl rfl rfl rfl ?_
   refine Tr.cn rfl (fun h3 q3 => ?_) (fun h3 q3 => ?_)
   ·
    have := h3
    refine Tr.skip (Fin.go (Tr.block (Tr.reg0 ?_)))
    refine Ch.mv rfl rfl rfl rfl rfl ?_
    first
     | (refine Ch.oo rfl rfl rfl (ok_add rfl (vl rfl) (vl rfl) ?hin) ?_; case hin => unfold InI; omega)
     | refine Ch.oo rfl rfl rfl (ok_int rfl (vl rfl) (vl rfl) rfl) ?_
    refine Ch.as rfl rfl rfl rfl rfl ?_
    refine Ch.nil (Fin.block ?_)
    exact Fin.fam_same (y + 1) ⟨⟨⟨by omega, by omega⟩, by rw [su_go (by omega) (by omega) (by omega) (pU_t (by omega) (by omega) (by assumption))]; exact hscAc⟩, by omega⟩ ⟨ke rfl, ke rfl, ke rfl, ke rfl, ke rfl, trivial⟩
   ·
    have := h3
    refine Tr.exit ?_
    refine Fin.then_exit ?_
    refine Fin.then_exit ?_
    refine Fin.block_here ?_
    exact Fin.fam_same () trivial ⟨⟨_, rfl, ex_in _ (fact_in ⟨⟨by omega, by omega⟩, trivial, by rw [← hscAc]; first | exact (su_stopA (by omega) (by omega)).symm | exact (su_stopB (by omega) (pU_f (by omega) (by omega) (Int.not_lt.2 (by assumption)))).symm⟩ (Pr.le_refl _))⟩, ke rfl, ke rfl, ke rfl, ke rfl, trivial⟩
  ·
   iterate 11 refine Ch.nt h2 rfl rfl rfl rfl rfl ?_
   refine Ch.oo rfl rfl rfl (ok_pick_f rfl (vl rfl) h2 (vl rfl)) ?_
   refine Ch.nil (Fin.go ?_)
   refine Tr.w6 0 1 4 12 13 47 rfl rfl rfl rfl rfl rfl ?_
   refine Tr.cond rfl (fun h => nomatch h) (fun _ => ?_)
   refine Tr.exit ?_
   refine Fin.then_exit ?_
   refine Fin.then_exit ?_
   refine Fin.block_here ?_
   exact Fin.fam_same () trivial ⟨⟨_, rfl, ex_in _ (fact_in ⟨⟨by omega, by omega⟩, trivial, by rw [← hscAc]; first | exact (su_stopA (by omega) (by omega)).symm | exact (su_stopB (by omega) (pU_f (by omega) (by omega) (Int.not_lt.2 (by assumption)))).symm⟩ (Pr.le_refl _))⟩, ke rfl, ke rfl, ke rfl, ke rfl, trivial⟩
 ·
  refine Tr.ex 12 rfl (fun i1 => Tr.fact 12 rfl fun hci1 => ?_)
  obtain ⟨hci1a, hci1b, hci1c⟩ := hci1
  refine Tr.w5 0 1 4 12 13 rfl rfl rfl rfl rfl ?_
  refine Tr.cutk [0, 1, 4, 12] [(13, ex fun y : Int => fact ((a ≤ y ∧ y ≤ (b - 1)) ∧ True ∧ y.toNat = Go.Sort.scanDown (pD c ((l.set a.toNat (l[pv.toNat]'hpv)).set pv.toNat (l[a.toNat]'hal)).toArray a) ((l.set a.toNat (l[pv.toNat]'hpv)).set pv.toNat (l[a.toNat]'hal)).toArray (i1).toNat ((b - 1)).toNat) (int y))] (True) ?_ (fun h4 => ?_)
  ·
   refine Tr.block ?_
   refine Tr.loopw [(0, _), (1, _), (4, _), (12, _)] ⟨ke rfl, ke rfl, ke rfl, ke rfl, trivial⟩ (fun y : Int => [(13, int y)]) (fun y : Int => (a ≤ y ∧ y ≤ (b - 1)) ∧ Go.Sort.scanDown (pD c ((l.set a.toNat (l[pv.toNat]'hpv)).set pv.toNat (l[a.toNat]'hal)).toArray a) ((l.set a.toNat (l[pv.toNat]'hpv)).set pv.toNat (l[a.toNat]'hal)).toArray (i1).toNat (y).toNat = Go.Sort.scanDown (pD c ((l.set a.toNat (l[pv.toNat]'hpv)).set pv.toNat (l[a.toNat]'hal)).toArray a) ((l.set a.toNat (l[pv.toNat]'hpv)).set pv.toNat (l[a.toNat]'hal)).toArray (i1).toNat ((b - 1)).toNat) (fun y : Int => (y - a).toNat) (b - 1) (⟨⟨by omega, by omega⟩, rfl⟩) ⟨ke rfl, trivial⟩ ?_
   rintro y ⟨⟨hscBa, hscBb⟩, hscBc⟩
   refine Tr.seq (Tr.seq ?_)
   refine Tr.reg1 mixed (by kernel_rfl) ?_
   refine Ch.mv rfl rfl rfl rfl rfl ?_
   refine Ch.mv rfl rfl rfl rfl rfl ?_
   refine Ch.oo rfl rfl rfl (ok_int rfl (vl rfl) (vl rfl) rfl) ?_
   refine Ch.mv rfl rfl rfl rfl rfl ?_
   refine Ch.cs 53 rfl (fun h5 q5 => ?_) (fun h5 q5 => ?_)
   ·
    iterate 3 refine Ch.ym h5 rfl rfl rfl rfl rfl rfl rfl ?_
    refine Ch.y h5 rfl rfl rfl rfl rfl (okp_indexSl rfl Tryz.underlying29 sz40 (vl rfl) (vl rfl) (by omega) (by omega)) ?_
    refine Ch.y h5 rfl rfl rfl rfl rfl (ok_rd 0 rfl (rd_loadA rfl agg40 sz40 (vl rfl) (cells_atG (f := rowFc) (fun _ => rfl) (by omega)) rfl)) ?_
    refine Ch.ym h5 rfl rfl rfl rfl rfl rfl rfl ?_
    refine Ch.ym h5 rfl rfl rfl rfl rfl rfl rfl ?_
    refine Ch.y h5 rfl rfl rfl rfl rfl (okp_indexSl rfl Tryz.underlying29 sz40 (vl rfl) (vl rfl) (by omega) (by omega)) ?_
    refine Ch.y h5 rfl rfl rfl rfl rfl (ok_rd 0 rfl (rd_loadA rfl agg40 sz40 (vl rfl) (cells_atG (f := rowFc) (fun _ => rfl) (by omega)) rfl)) ?_
    refine Ch.y h5 rfl rfl rfl rfl rfl (ok_callc (_, _) rfl (vl rfl) ⟨ke rfl, ke rfl, trivial⟩) ?_
    refine Ch.y h5 rfl rfl rfl rfl rfl (ok_int rfl (vl rfl) (vl rfl) rfl) ?_
    refine Ch.y h5 rfl rfl rfl rfl rfl (ok_not rfl (vl rfl)) ?_
    refine Ch.oo rfl rfl rfl (ok_pick_t rfl (vl rfl) h5 (vl rfl)) ?_
    refine Ch.nil (Fin.go ?_)
    refine Tr.w6 0 1 4 12 13 66 rfl rfl rfl rfl rfl rfl ?_
    refine Tr.cn rfl (fun h6 q6 => ?_) (fun h6 q6 => ?_)
    ·
     have := h6
     refine Tr.skip (Fin.go (Tr.block (Tr.reg0 ?_)))
     refine Ch.mv rfl rfl rfl rfl rfl ?_
     first
      | (refine Ch.oo rfl rfl rfl (ok_sub rfl (vl rfl) (vl rfl) ?hin) ?_; case hin => unfold InI; omega)
      | refine Ch.oo rfl rfl rfl (ok_int rfl (vl rfl) (vl rfl) rfl) ?_
     refine Ch.as rfl rfl rfl rfl rfl ?_
     refine Ch.nil (Fin.block ?_)
     exact Fin.fam_same (y - 1) ⟨⟨⟨by omega, by omega⟩, by rw [sd_go (by omega) (by omega) (by omega) (pD_t (by omega) (by omega) (Int.not_lt.2 (by assumption)))]; exact hscBc⟩, by omega⟩ ⟨ke rfl, ke rfl, ke rfl, ke rfl, ke rfl, trivial⟩
    ·
     have := h6
     refine Tr.exit ?_
     refine Fin.then_exit ?_
     refine Fin.then_exit ?_
     refine Fin.block_here ?_
     exact Fin.fam_same () trivial ⟨⟨_, rfl, ex_in _ (fact_in ⟨⟨by omega, by omega⟩, trivial, by rw [← hscBc]; first | exact (sd_stopA (by omega) (by omega)).symm | exact (sd_stopB (by omega) (pD_f (by omega) (by omega) (by assumption))).symm⟩ (Pr.le_refl _))⟩, ke rfl, ke rfl, ke rfl, ke rfl, trivial⟩
   ·
    iterate 12 refine Ch.nt h5 rfl rfl rfl rfl rfl ?_
    refine Ch.oo rfl rfl rfl (ok_pick_f rfl (vl rfl) h5 (vl rfl)) ?_
    refine Ch.nil (Fin.go ?_)
    refine Tr.w6 0 1 4 12 13 66 rfl rfl rfl rfl rfl rfl ?_
    refine Tr.cond rfl (fun h => nomatch h) (fun _ => ?_)
    refine Tr.exit ?_
    refine Fin.then_exit ?_
    refine Fin.then_exit ?_
    refine Fin.block_here ?_
    exact Fin.fam_same () trivial ⟨⟨_, rfl, ex_in _ (fact_in ⟨⟨by omega, by omega⟩, trivial, by rw [← hscBc]; first | exact (sd_stopA (by omega) (by omega)).symm | exact (sd_stopB (by omega) (pD_f (by omega) (by omega) (by assumption))).symm⟩ (Pr.le_refl _))⟩, ke rfl, ke rfl, ke rfl, ke rfl, trivial⟩
  ·
   refine Tr.ex 13 rfl (fun j1 => Tr.fact 13 rfl fun hcj1 => ?_)
   obtain ⟨hcj1a, hcj1b, hcj1c⟩ := hcj1
   refine Tr.seq (Tr.seq (Tr.reg0 ?_))
   refine Ch.mv rfl rfl rfl rfl rfl ?_
   refine Ch.mv rfl rfl rfl rfl rfl ?_
   refine Ch.oo rfl rfl rfl (ok_int rfl (vl rfl) (vl rfl) rfl) ?_
   refine Ch.nil (Fin.go ?_)
   refine Tr.cn rfl (fun h7 q7 => ?_) (fun h7 q7 => ?_)
   ·
    refine Tr.seq ?_
    refine Tr.regX mixed [none, none, none, none, none, none, none, some (0, 0, false, 0), none, none, none, some (0, 0, false, 0), none, some (0, 0, true, 0), none, some (0, 0, true, 0)] (by kernel_rfl) ?_
    iterate 6 refine Cx.mv rfl rfl rfl rfl rfl ?_
    refine Cx.oo rfl rfl rfl (fun _ => okp_indexSl rfl Tryz.underlying29 sz40 (vl rfl) (vl rfl) (by omega) (by omega)) ?_
    refine Cx.rd 0 rfl rfl rfl (by decide) (rd_loadA rfl agg40 sz40 (vl rfl) (cells_atG (f := rowFc) (fun _ => rfl) (by omega)) rfl) ?_
    refine Cx.mv rfl rfl rfl rfl rfl ?_
    refine Cx.mv rfl rfl rfl rfl rfl ?_
    refine Cx.oo rfl rfl rfl (fun _ => okp_indexSl rfl Tryz.underlying29 sz40 (vl rfl) (vl rfl) (by omega) (by omega)) ?_
    refine Cx.rd 0 rfl rfl rfl (by decide) (rd_loadA rfl agg40 sz40 (vl rfl) (cells_atG (f := rowFc) (fun _ => rfl) (by omega)) rfl) ?_
    refine Cx.oo rfl rfl rfl (fun _ => okp_indexSl rfl Tryz.underlying29 sz40 (vl rfl) (vl rfl) (by omega) (by omega)) ?_
    refine Cx.ef0 0 rfl rfl (ef_store rfl rfl (vl rfl) (VL.le (vl rfl) (agg_cellsP _)) sz40 rfl (by rw [cells_len (sz := 8) (fun _ => rfl)]; first | omega | (simp only [List.length_set]; omega)) (cells_setG (f := rowFc) (fun _ => rfl) (by first | omega | (simp only [List.length_set]; omega)))) ?_
    refine Cx.oo rfl rfl rfl (fun _ => okp_indexSl rfl Tryz.underlying29 sz40 (vl rfl) (vl rfl) (by omega) (by omega)) ?_
    refine Cx.ef0 0 rfl rfl (ef_store rfl rfl (vl rfl) (VL.le (vl rfl) (agg_cellsP _)) sz40 rfl (by rw [cells_len (sz := 8) (fun _ => rfl)]; first | omega | (simp only [List.length_set]; omega)) (cells_setG (f := rowFc) (fun _ => rfl) (by first | omega | (simp only [List.length_set]; omega)))) ?_
    refine Cx.nil ⟨rfl, ?_⟩
    refine FinX.done (AllC.cons (AllC.cons (AllC.map _))) ?_
    refine Fin.go ?_
    refine Tr.w1 13 rfl ?_
    refine Tr.seq (Tr.reg0 ?_)
    refine Ch.mv rfl rfl rfl rfl rfl ?_
    refine Ch.as rfl rfl rfl rfl rfl ?_
    refine Ch.as rfl rfl rfl rfl rfl ?_
    refine Ch.nil (Fin.go (Tr.ret ?_))
    refine Fin.then_ret ?_
    refine Fin.closeL (PartL c a b pv l) 0 rfl (⟨by simp only [List.length_set], (pa_start h0 hab hal hpv (part_stop hci1c hcj1c (by omega) (by omega)) (by omega) (by omega)).2⟩) ?_
    refine Fin.retY2 [] rfl (RVal.tmp rfl (Pr.le_refl _)) (RVal.tmp rfl (Pr.le_refl _)) ?_
    · exact ex_in true (fact_in trivial (Pr.le_of_eq (by rw [(pa_start h0 hab hal hpv (part_stop hci1c hcj1c (by omega) (by omega)) (by omega) (by omega)).1, Int.toNat_of_nonneg (by omega)])))
   ·
    refine Tr.skip (Fin.go (Tr.seq ?_))
    refine Tr.regX mixed [none, none, none, none, none, none, none, some (0, 0, false, 0), none, none, none, some (0, 0, false, 0), none, some (0, 0, true, 0), none, some (0, 0, true, 0)] (by kernel_rfl) ?_
    iterate 6 refine Cx.mv rfl rfl rfl rfl rfl ?_
    refine Cx.oo rfl rfl rfl (fun _ => okp_indexSl rfl Tryz.underlying29 sz40 (vl rfl) (vl rfl) (by omega) (by omega)) ?_
    refine Cx.rd 0 rfl rfl rfl (by decide) (rd_loadA rfl agg40 sz40 (vl rfl) (cells_atG (f := rowFc) (fun _ => rfl) (by omega)) rfl) ?_
    refine Cx.mv rfl rfl rfl rfl rfl ?_
    refine Cx.mv rfl rfl rfl rfl rfl ?_
    refine Cx.oo rfl rfl rfl (fun _ => okp_indexSl rfl Tryz.underlying29 sz40 (vl rfl) (vl rfl) (by omega) (by omega)) ?_
    refine Cx.rd 0 rfl rfl rfl (by decide) (rd_loadA rfl agg40 sz40 (vl rfl) (cells_atG (f := rowFc) (fun _ => rfl) (by omega)) rfl) ?_
    refine Cx.oo rfl rfl rfl (fun _ => okp_indexSl rfl Tryz.underlying29 sz40 (vl rfl) (vl rfl) (by omega) (by omega)) ?_
    refine Cx.ef0 0 rfl rfl (ef_store rfl rfl (vl rfl) (VL.le (vl rfl) (agg_cellsP _)) sz40 rfl (by rw [cells_len (sz := 8) (fun _ => rfl)]; first | omega | (simp only [List.length_set]; omega)) (cells_setG (f := rowFc) (fun _ => rfl) (by first | omega | (simp only [List.length_set]; omega)))) ?_
    refine Cx.oo rfl rfl rfl (fun _ => okp_indexSl rfl Tryz.underlying29 sz40 (vl rfl) (vl rfl) (by omega) (by omega)) ?_
    refine Cx.ef0 0 rfl rfl (ef_store rfl rfl (vl rfl) (VL.le (vl rfl) (agg_cellsP _)) sz40 rfl (by rw [cells_len (sz := 8) (fun _ => rfl)]; first | omega | (simp only [List.length_set]; omega)) (cells_setG (f := rowFc) (fun _ => rfl) (by first | omega | (simp only [List.length_set]; omega)))) ?_
    refine Cx.nil ⟨rfl, ?_⟩
    refine FinX.done (AllC.cons (AllC.cons (AllC.map _))) ?_
    refine Fin.go ?_
    refine Tr.w5 0 1 4 12 13 rfl rfl rfl rfl rfl ?_
    refine Tr.seq (Tr.reg0 ?_)
    refine Ch.mv rfl rfl rfl rfl rfl ?_
    first
     | (refine Ch.oo rfl rfl rfl (ok_add rfl (vl rfl) (vl rfl) ?hin) ?_; case hin => unfold InI; omega)
     | refine Ch.oo rfl rfl rfl (ok_int rfl (vl rfl) (vl rfl) rfl) ?_
    refine Ch.as rfl rfl rfl rfl rfl ?_
    refine Ch.nil (Fin.go (Tr.seq (Tr.reg0 ?_)))
    refine Ch.mv rfl rfl rfl rfl rfl ?_
    first
     | (refine Ch.oo rfl rfl rfl (ok_sub rfl (vl rfl) (vl rfl) ?hin) ?_; case hin => unfold InI; omega)
     | refine Ch.oo rfl rfl rfl (ok_int rfl (vl rfl) (vl rfl) rfl) ?_
    refine Ch.as rfl rfl rfl rfl rfl ?_
    refine Ch.nil (Fin.go (Tr.seq (Tr.block ?_)))
    refine Tr.loopD3V0 [(0, _), (1, _), (4, _)] ⟨ke rfl, ke rfl, ke rfl, trivial⟩ (fun (i : Int) (j : Int) (st : List Fct) => [(12, int i), (13, int j)]) (fun (i : Int) (j : Int) (st : List Fct) => Hp M0 w0 S (cellsRes true b0 40 ((st.map rowFc).flatten ++ sp.map is) :: extRes M1 w1 :: rs)) (fun (i : Int) (j : Int) (st : List Fct) => ((a < i ∧ i ≤ b) ∧ a ≤ j ∧ j < b) ∧ st.length = len ∧ PLp c a i j st.toArray = PLp c a (a + 1) (b - 1) ((l.set a.toNat (l[pv.toNat]'hpv)).set pv.toNat (l[a.toNat]'hal)).toArray) (fun (i : Int) (j : Int) (st : List Fct) => (j - i + 2).toNat) (i1 + 1) (j1 - 1) (_)  (⟨⟨⟨by omega, by omega⟩, by omega, by omega⟩, by simp only [List.length_set]; exact hln, part_go hci1c hcj1c (by omega) (by omega) (by omega) (by omega)⟩) ⟨ke rfl, ke rfl, trivial⟩ (fun _ _ h => h) ?_
    rintro i j st  ⟨⟨⟨hi1, hi2⟩, hj1, hj2⟩, hsl, hso⟩
    refine Tr.block ?_
    refine Tr.w5 0 1 4 12 13 rfl rfl rfl rfl rfl ?_
    refine Tr.cutk [0, 1, 4, 13] [(12, ex fun y : Int => fact ((i ≤ y ∧ y ≤ b) ∧ True ∧ y.toNat = Go.Sort.scanUp (pU c st.toArray a) st.toArray (j).toNat (i).toNat) (int y))] (True) ?_ (fun h8 => ?_)
    ·
     refine Tr.block ?_
     refine Tr.loopw [(0, _), (1, _), (4, _), (13, _)] ⟨ke rfl, ke rfl, ke rfl, ke rfl, trivial⟩ (fun y : Int => [(12, int y)]) (fun y : Int => (i ≤ y ∧ y ≤ b) ∧ Go.Sort.scanUp (pU c st.toArray a) st.toArray (j).toNat (y).toNat = Go.Sort.scanUp (pU c st.toArray a) st.toArray (j).toNat (i).toNat) (fun y : Int => (b - y).toNat) i (⟨⟨by omega, by omega⟩, rfl⟩) ⟨ke rfl, trivial⟩ ?_
     rintro y ⟨⟨hscAa, hscAb⟩, hscAc⟩
     refine Tr.seq (Tr.seq ?_)
     refine Tr.reg1 mixed (by kernel_rfl) ?_
     refine Ch.mv rfl rfl rfl rfl rfl ?_
     refine Ch.mv rfl rfl rfl rfl rfl ?_
     refine Ch.oo rfl rfl rfl (ok_int rfl (vl rfl) (vl rfl) rfl) ?_
     refine Ch.mv rfl rfl rfl rfl rfl ?_
     refine Ch.cs 108 rfl (fun h9 q9 => ?_) (fun h9 q9 => ?_)
     ·
      iterate 3 refine Ch.ym h9 rfl rfl rfl rfl rfl rfl rfl ?_
      refine Ch.y h9 rfl rfl rfl rfl rfl (okp_indexSl rfl Tryz.underlying29 sz40 (vl rfl) (vl rfl) (by omega) (by omega)) ?_
      refine Ch.y h9 rfl rfl rfl rfl rfl (ok_rd 0 rfl (rd_loadA rfl agg40 sz40 (vl rfl) (cells_atG (f := rowFc) (fun _ => rfl) (by omega)) rfl)) ?_
      refine Ch.ym h9 rfl rfl rfl rfl rfl rfl rfl ?_
      refine Ch.ym h9 rfl rfl rfl rfl rfl rfl rfl ?_
      refine Ch.y h9 rfl rfl rfl rfl rfl (okp_indexSl rfl Tryz.underlying29 sz40 (vl rfl) (vl rfl) (by omega) (by omega)) ?_
      refine Ch.y h9 rfl rfl rfl rfl rfl (ok_rd 0 rfl (rd_loadA rfl agg40 sz40 (vl rfl) (cells_atG (f := rowFc) (fun _ => rfl) (by omega)) rfl)) ?_
      refine Ch.y h9 rfl rfl rfl rfl rfl (ok_callc (_, _) rfl (vl rfl) ⟨ke rfl, ke rfl, trivial⟩) ?_
      refine Ch.y h9 rfl rfl rfl rfl rfl (ok_int rfl (vl rfl) (vl rfl) rfl) ?_
      refine Ch.oo rfl rfl rfl (ok_pick_t rfl (vl rfl) h9 (vl rfl)) ?_
      refine Ch.nil (Fin.go ?_)
      refine Tr.w6 0 1 4 12 13 120 rfl rfl rfl rfl rfl rfl ?_
      refine Tr.cn rfl (fun h10 q10 => ?_) (fun h10 q10 => ?_)
      ·
       have := h10
       refine Tr.skip (Fin.go (Tr.block (Tr.reg0 ?_)))
       refine Ch.mv rfl rfl rfl rfl rfl ?_
       first
        | (refine Ch.oo rfl rfl rfl (ok_add rfl (vl rfl) (vl rfl) ?hin) ?_; case hin => unfold InI; omega)
        | refine Ch.oo rfl rfl rfl (ok_int rfl (vl rfl) (vl rfl) rfl) ?_
       refine Ch.as rfl rfl rfl rfl rfl ?_
       refine Ch.nil (Fin.block ?_)
       exact Fin.fam_same (y + 1) ⟨⟨⟨by omega, by omega⟩, by rw [su_go (by omega) (by omega) (by omega) (pU_t (by omega) (by omega) (by assumption))]; exact hscAc⟩, by omega⟩ ⟨ke rfl, ke rfl, ke rfl, ke rfl, ke rfl, trivial⟩
      ·
       have := h10
       refine Tr.exit ?_
       refine Fin.then_exit ?_
       refine Fin.then_exit ?_
       refine Fin.block_here ?_
       exact Fin.fam_same () trivial ⟨⟨_, rfl, ex_in _ (fact_in ⟨⟨by omega, by omega⟩, trivial, by rw [← hscAc]; first | exact (su_stopA (by omega) (by omega)).symm | exact (su_stopB (by omega) (pU_f (by omega) (by omega) (Int.not_lt.2 (by assumption)))).symm⟩ (Pr.le_refl _))⟩, ke rfl, ke rfl, ke rfl, ke rfl, trivial⟩
     ·
      iterate 11 refine Ch.nt h9 rfl rfl rfl rfl rfl ?_
      refine Ch.oo rfl rfl rfl (ok_pick_f rfl (vl rfl) h9 (vl rfl)) ?_
      refine Ch.nil (Fin.go ?_)
      refine Tr.w6 0 1 4 12 13 120 rfl rfl rfl rfl rfl rfl ?_
      refine Tr.cond rfl (fun h => nomatch h) (fun _ => ?_)
      refine Tr.exit ?_
      refine Fin.then_exit ?_
      refine Fin.then_exit ?_
      refine Fin.block_here ?_
      exact Fin.fam_same () trivial ⟨⟨_, rfl, ex_in _ (fact_in ⟨⟨by omega, by omega⟩, trivial, by rw [← hscAc]; first | exact (su_stopA (by omega) (by omega)).symm | exact (su_stopB (by omega) (pU_f (by omega) (by omega) (Int.not_lt.2 (by assumption)))).symm⟩ (Pr.le_refl _))⟩, ke rfl, ke rfl, ke rfl, ke rfl, trivial⟩
    ·
     refine Tr.ex 12 rfl (fun i2 => Tr.fact 12 rfl fun hci2 => ?_)
     obtain ⟨hci2a, hci2b, hci2c⟩ := hci2
     refine Tr.w5 0 1 4 12 13 rfl rfl rfl rfl rfl ?_
     refine Tr.cutk [0, 1, 4, 12] [(13, ex fun y : Int => fact ((a ≤ y ∧ y ≤ j) ∧ True ∧ y.toNat = Go.Sort.scanDown (pD c st.toArray a) st.toArray (i2).toNat (j).toNat) (int y))] (True) ?_ (fun h11 => ?_)
     ·
      refine Tr.block ?_
      refine Tr.loopw [(0, _), (1, _), (4, _), (12, _)] ⟨ke rfl, ke rfl, ke rfl, ke rfl, trivial⟩ (fun y : Int => [(13, int y)]) (fun y : Int => (a ≤ y ∧ y ≤ j) ∧ Go.Sort.scanDown (pD c st.toArray a) st.toArray (i2).toNat (y).toNat = Go.Sort.scanDown (pD c st.toArray a) st.toArray (i2).toNat (j).toNat) (fun y : Int => (y - a).toNat) j (⟨⟨by omega, by omega⟩, rfl⟩) ⟨ke rfl, trivial⟩ ?_
      rintro y ⟨⟨hscBa, hscBb⟩, hscBc⟩
      refine Tr.seq (Tr.seq ?_)
      refine Tr.reg1 mixed (by kernel_rfl) ?_
      refine Ch.mv rfl rfl rfl rfl rfl ?_
      refine Ch.mv rfl rfl rfl rfl rfl ?_
      refine Ch.oo rfl rfl rfl (ok_int rfl (vl rfl) (vl rfl) rfl) ?_
      refine Ch.mv rfl rfl rfl rfl rfl ?_
      refine Ch.cs 126 rfl (fun h12 q12 => ?_) (fun h12 q12 => ?_)
      ·
       iterate 3 refine Ch.ym h12 rfl rfl rfl rfl rfl rfl rfl ?_
       refine Ch.y h12 rfl rfl rfl rfl rfl (okp_indexSl rfl Tryz.underlying29 sz40 (vl rfl) (vl rfl) (by omega) (by omega)) ?_
       refine Ch.y h12 rfl rfl rfl rfl rfl (ok_rd 0 rfl (rd_loadA rfl agg40 sz40 (vl rfl) (cells_atG (f := rowFc) (fun _ => rfl) (by omega)) rfl)) ?_
       refine Ch.ym h12 rfl rfl rfl rfl rfl rfl rfl ?_
       refine Ch.ym h12 rfl rfl rfl rfl rfl rfl rfl ?_
       refine Ch.y h12 rfl rfl rfl rfl rfl (okp_indexSl rfl Tryz.underlying29 sz40 (vl rfl) (vl rfl) (by omega) (by omega)) ?_
       refine Ch.y h12 rfl rfl rfl rfl rfl (ok_rd 0 rfl (rd_loadA rfl agg40 sz40 (vl rfl) (cells_atG (f := rowFc) (fun _ => rfl) (by omega)) rfl)) ?_
       refine Ch.y h12 rfl rfl rfl rfl rfl (ok_callc (_, _) rfl (vl rfl) ⟨ke rfl, ke rfl, trivial⟩) ?_
       refine Ch.y h12 rfl rfl rfl rfl rfl (ok_int rfl (vl rfl) (vl rfl) rfl) ?_
       refine Ch.y h12 rfl rfl rfl rfl rfl (ok_not rfl (vl rfl)) ?_
       refine Ch.oo rfl rfl rfl (ok_pick_t rfl (vl rfl) h12 (vl rfl)) ?_
       refine Ch.nil (Fin.go ?_)
       refine Tr.w6 0 1 4 12 13 139 rfl rfl rfl rfl rfl rfl ?_
       refine Tr.cn rfl (fun h13 q13 => ?_) (fun h13 q13 => ?_)
       ·
        have := h13
        refine Tr.skip (Fin.go (Tr.block (Tr.reg0 ?_)))
        refine Ch.mv rfl rfl rfl rfl rfl ?_
        first
         | (refine Ch.oo rfl rfl rfl (ok_sub rfl (vl rfl) (vl rfl) ?hin) ?_; case hin => unfold InI; omega)
         | refine Ch.oo rfl rfl rfl (ok_int rfl (vl rfl) (vl rfl) rfl) ?_
        refine Ch.as rfl rfl rfl rfl rfl ?_
        refine Ch.nil (Fin.block ?_)
        exact Fin.fam_same (y - 1) ⟨⟨⟨by omega, by omega⟩, by rw [sd_go (by omega) (by omega) (by omega) (pD_t (by omega) (by omega) (Int.not_lt.2 (by assumption)))]; exact hscBc⟩, by omega⟩ ⟨ke rfl, ke rfl, ke rfl, ke rfl, ke rfl, trivial⟩
       ·
        have := h13
        refine Tr.exit ?_
        refine Fin.then_exit ?_
        refine Fin.then_exit ?_
        refine Fin.block_here ?_
        exact Fin.fam_same () trivial ⟨⟨_, rfl, ex_in _ (fact_in ⟨⟨by omega, by omega⟩, trivial, by rw [← hscBc]; first | exact (sd_stopA (by omega) (by omega)).symm | exact (sd_stopB (by omega) (pD_f (by omega) (by omega) (by assumption))).symm⟩ (Pr.le_refl _))⟩, ke rfl, ke rfl, ke rfl, ke rfl, trivial⟩
      ·
       iterate 12 refine Ch.nt h12 rfl rfl rfl rfl rfl ?_
       refine Ch.oo rfl rfl rfl (ok_pick_f rfl (vl rfl) h12 (vl rfl)) ?_
       refine Ch.nil (Fin.go ?_)
       refine Tr.w6 0 1 4 12 13 139 rfl rfl rfl rfl rfl rfl ?_
       refine Tr.cond rfl (fun h => nomatch h) (fun _ => ?_)
       refine Tr.exit ?_
       refine Fin.then_exit ?_
       refine Fin.then_exit ?_
       refine Fin.block_here ?_
       exact Fin.fam_same () trivial ⟨⟨_, rfl, ex_in _ (fact_in ⟨⟨by omega, by omega⟩, trivial, by rw [← hscBc]; first | exact (sd_stopA (by omega) (by omega)).symm | exact (sd_stopB (by omega) (pD_f (by omega) (by omega) (by assumption))).symm⟩ (Pr.le_refl _))⟩, ke rfl, ke rfl, ke rfl, ke rfl, trivial⟩
     ·
      refine Tr.ex 13 rfl (fun j2 => Tr.fact 13 rfl fun hcj2 => ?_)
      obtain ⟨hcj2a, hcj2b, hcj2c⟩ := hcj2
      refine Tr.seq (Tr.seq (Tr.reg0 ?_))
      refine Ch.mv rfl rfl rfl rfl rfl ?_
      refine Ch.mv rfl rfl rfl rfl rfl ?_
      refine Ch.oo rfl rfl rfl (ok_int rfl (vl rfl) (vl rfl) rfl) ?_
      refine Ch.nil (Fin.go ?_)
      refine Tr.cn rfl (fun h14 q14 => ?_) (fun h14 q14 => ?_)
      ·
       refine Tr.exit ?_
       refine Fin.then_exit ?_
       refine Fin.block_on rfl ?_
       refine Fin.then_exit ?_
       refine Fin.block_here ?_
       refine Fin.go (Tr.seq ?_)
       refine Tr.regX mixed [none, none, none, none, none, none, none, some (0, 0, false, 0), none, none, none, some (0, 0, false, 0), none, some (0, 0, true, 0), none, some (0, 0, true, 0)] (by kernel_rfl) ?_
       iterate 6 refine Cx.mv rfl rfl rfl rfl rfl ?_
       refine Cx.oo rfl rfl rfl (fun _ => okp_indexSl rfl Tryz.underlying29 sz40 (vl rfl) (vl rfl) (by omega) (by omega)) ?_
       refine Cx.rd 0 rfl rfl rfl (by decide) (rd_loadA rfl agg40 sz40 (vl rfl) (cells_atG (f := rowFc) (fun _ => rfl) (by omega)) rfl) ?_
       refine Cx.mv rfl rfl rfl rfl rfl ?_
       refine Cx.mv rfl rfl rfl rfl rfl ?_
       refine Cx.oo rfl rfl rfl (fun _ => okp_indexSl rfl Tryz.underlying29 sz40 (vl rfl) (vl rfl) (by omega) (by omega)) ?_
       refine Cx.rd 0 rfl rfl rfl (by decide) (rd_loadA rfl agg40 sz40 (vl rfl) (cells_atG (f := rowFc) (fun _ => rfl) (by omega)) rfl) ?_
       refine Cx.oo rfl rfl rfl (fun _ => okp_indexSl rfl Tryz.underlying29 sz40 (vl rfl) (vl rfl) (by omega) (by omega)) ?_
       refine Cx.ef0 0 rfl rfl (ef_store rfl rfl (vl rfl) (VL.le (vl rfl) (agg_cellsP _)) sz40 rfl (by rw [cells_len (sz := 8) (fun _ => rfl)]; first | omega | (simp only [List.length_set]; omega)) (cells_setG (f := rowFc) (fun _ => rfl) (by first | omega | (simp only [List.length_set]; omega)))) ?_
       refine Cx.oo rfl rfl rfl (fun _ => okp_indexSl rfl Tryz.underlying29 sz40 (vl rfl) (vl rfl) (by omega) (by omega)) ?_
       refine Cx.ef0 0 rfl rfl (ef_store rfl rfl (vl rfl) (VL.le (vl rfl) (agg_cellsP _)) sz40 rfl (by rw [cells_len (sz := 8) (fun _ => rfl)]; first | omega | (simp only [List.length_set]; omega)) (cells_setG (f := rowFc) (fun _ => rfl) (by first | omega | (simp only [List.length_set]; omega)))) ?_
       refine Cx.nil ⟨rfl, ?_⟩
       refine FinX.done (AllC.cons (AllC.cons (AllC.map _))) ?_
       refine Fin.go ?_
       refine Tr.w1 13 rfl ?_
       refine Tr.seq (Tr.reg0 ?_)
       refine Ch.mv rfl rfl rfl rfl rfl ?_
       refine Ch.as rfl rfl rfl rfl rfl ?_
       refine Ch.as rfl rfl rfl rfl rfl ?_
       refine Ch.nil (Fin.go (Tr.ret ?_))
       refine Fin.closeL (PartL c a b pv l) 0 rfl (⟨by simp only [List.length_set]; omega, (pa_start h0 hab hal hpv (hso.symm.trans (part_stop hci2c hcj2c (by omega) (by omega))) (by omega) (by omega)).2⟩) ?_
       refine Fin.retY2 [] rfl (RVal.tmp rfl (Pr.le_refl _)) (RVal.tmp rfl (Pr.le_refl _)) ?_
       · exact ex_in false (fact_in trivial (Pr.le_of_eq (by rw [(pa_start h0 hab hal hpv (hso.symm.trans (part_stop hci2c hcj2c (by omega) (by omega))) (by omega) (by omega)).1, Int.toNat_of_nonneg (by omega)])))
      ·
       refine Tr.skip (Fin.go (Tr.seq ?_))
       refine Tr.regX mixed [none, none, none, none, none, none, none, some (0, 0, false, 0), none, none, none, some (0, 0, false, 0), none, some (0, 0, true, 0), none, some (0, 0, true, 0)] (by kernel_rfl) ?_
       iterate 6 refine Cx.mv rfl rfl rfl rfl rfl ?_
       refine Cx.oo rfl rfl rfl (fun _ => okp_indexSl rfl Tryz.underlying29 sz40 (vl rfl) (vl rfl) (by omega) (by omega)) ?_
       refine Cx.rd 0 rfl rfl rfl (by decide) (rd_loadA rfl agg40 sz40 (vl rfl) (cells_atG (f := rowFc) (fun _ => rfl) (by omega)) rfl) ?_
       refine Cx.mv rfl rfl rfl rfl rfl ?_
       refine Cx.mv rfl rfl rfl rfl rfl ?_
       refine Cx.oo rfl rfl rfl (fun _ => okp_indexSl rfl Tryz.underlying29 sz40 (vl rfl) (vl rfl) (by omega) (by omega)) ?_
       refine Cx.rd 0 rfl rfl rfl (by decide) (rd_loadA rfl agg40 sz40 (vl rfl) (cells_atG (f := rowFc) (fun _ => rfl) (by omega)) rfl) ?_
       refine Cx.oo rfl rfl rfl (fun _ => okp_indexSl rfl Tryz.underlying29 sz40 (vl rfl) (vl rfl) (by omega) (by omega)) ?_
       refine Cx.ef0 0 rfl rfl (ef_store rfl rfl (vl rfl) (VL.le (vl rfl) (agg_cellsP _)) sz40 rfl (by rw [cells_len (sz := 8) (fun _ => rfl)]; first | omega | (simp only [List.length_set]; omega)) (cells_setG (f := rowFc) (fun _ => rfl) (by first | omega | (simp only [List.length_set]; omega)))) ?_
       refine Cx.oo rfl rfl rfl (fun _ => okp_indexSl rfl Tryz.underlying29 sz40 (vl rfl) (vl rfl) (by omega) (by omega)) ?_
       refine Cx.ef0 0 rfl rfl (ef_store rfl rfl (vl rfl) (VL.le (vl rfl) (agg_cellsP _)) sz40 rfl (by rw [cells_len (sz := 8) (fun _ => rfl)]; first | omega | (simp only [List.length_set]; omega)) (cells_setG (f := rowFc) (fun _ => rfl) (by first | omega | (simp only [List.length_set]; omega)))) ?_
       refine Cx.nil ⟨rfl, ?_⟩
       refine FinX.done (AllC.cons (AllC.cons (AllC.map _))) ?_
       refine Fin.go ?_
       refine Tr.w5 0 1 4 12 13 rfl rfl rfl rfl rfl ?_
       refine Tr.seq (Tr.reg0 ?_)
       refine Ch.mv rfl rfl rfl rfl rfl ?_
       first
        | (refine Ch.oo rfl rfl rfl (ok_add rfl (vl rfl) (vl rfl) ?hin) ?_; case hin => unfold InI; omega)
        | refine Ch.oo rfl rfl rfl (ok_int rfl (vl rfl) (vl rfl) rfl) ?_
       refine Ch.as rfl rfl rfl rfl rfl ?_
       refine Ch.nil (Fin.go (Tr.reg0 ?_))
       refine Ch.mv rfl rfl rfl rfl rfl ?_
       first
        | (refine Ch.oo rfl rfl rfl (ok_sub rfl (vl rfl) (vl rfl) ?hin) ?_; case hin => unfold InI; omega)
        | refine Ch.oo rfl rfl rfl (ok_int rfl (vl rfl) (vl rfl) rfl) ?_
       refine Ch.as rfl rfl rfl rfl rfl ?_
       refine Ch.nil (Fin.block ?_)
       exact Fin.famD3V0 (i2 + 1) (j2 - 1) (_)  (⟨⟨⟨⟨by omega, by omega⟩, by omega, by omega⟩, by simp only [List.length_set]; exact hsl, (part_go hci2c hcj2c (by omega) (by omega) (by omega) (by omega)).trans hso⟩, by omega⟩) ⟨ke rfl, ke rfl, ke rfl, ke rfl, ke rfl, trivial⟩ (fun _ _ h => h)
set_option maxRecDepth 20000 in
theorem w_sins5F {l : List Fct} {c : Fct × Fct → Int} {b0 cap len : Nat} {sp : List Value} {a b : Int} (hln : l.length = len) (hll : len ≤ 1000000) (hw : Go.Sort.SWO (ltc c)) (h0 : 0 ≤ a) (hab : a < b) (hb : b ≤ len) (hb5 : b < 50) : FunM Tryz.prog 110 [is (.slice (some ⟨b0, 0, none⟩) len cap), int a, int b, clo Tryz.prog (fun x : Fct × Fct => [agg (rowFc x.1), agg (rowFc x.2)]) (fun x => int (c x))] (ex fun z : Bool => fact (z = true → Go.Sort.SortedIn (ltc c) a.toNat b.toNat l.toArray) (bool z)) (cellsRes true b0 40 ((l.map rowFc).flatten ++ sp.map is)) (fun _ => cellsRes true b0 40 ((l.map rowFc).flatten ++ sp.map is)) := by
 refine FunM.of Tryz.func110 rfl rfl (by exact Nat.le_of_ble_eq_true rfl) fun M0 w0 S rs M1 w1 => ?_
 refine Tr.seq (Tr.reg0 ?_)
 refine Ch.as rfl rfl rfl rfl rfl ?_
 refine Ch.nil (Fin.go (Tr.seq (Tr.reg0 ?_)))
 refine Ch.mv rfl rfl rfl rfl rfl ?_
 first
  | (refine Ch.oo rfl rfl rfl (ok_add rfl (vl rfl) (vl rfl) ?hin) ?_; case hin => unfold InI; omega)
  | refine Ch.oo rfl rfl rfl (ok_int rfl (vl rfl) (vl rfl) rfl) ?_
 refine Ch.as rfl rfl rfl rfl rfl ?_
 refine Ch.nil (Fin.go (Tr.seq (Tr.seq (Tr.reg0 ?_))))
 refine Ch.as rfl rfl rfl rfl rfl ?_
 refine Ch.nil (Fin.go (Tr.block ?_))
 refine Tr.loopD2V0 [(0, _), (1, _), (2, _), (3, _)] ⟨ke rfl, ke rfl, ke rfl, ke rfl, trivial⟩ (fun (i : Int) (j : Int) => [(9, int i), (10, int j)]) (fun (i : Int) (j : Int) => Hp M0 w0 S (cellsRes true b0 40 ((l.map rowFc).flatten ++ sp.map is) :: extRes M1 w1 :: rs)) (fun (i : Int) (j : Int) => (j = 0 ∧ a < i ∧ i ≤ b) ∧ Adj c a i l) (fun (i : Int) (j : Int) => (5 - j).toNat) (a + 1) (0)  (⟨⟨rfl, by omega, by omega⟩, Adj.start a l h0⟩) ⟨ke rfl, ke rfl, trivial⟩ (fun _ _ h => h) ?_
 rintro i j  ⟨⟨hj0, hi1, hi2⟩, hadj⟩
 refine Tr.seq (Tr.seq (Tr.reg0 ?_))
 refine Ch.mv rfl rfl rfl rfl rfl ?_
 refine Ch.oo rfl rfl rfl (ok_int rfl (vl rfl) (vl rfl) rfl) ?_
 refine Ch.nil (Fin.go ?_)
 refine Tr.cn rfl (fun h1 q1 => ?_) (fun h1 q1 => ?_)
 ·
  skip
  refine Tr.skip (Fin.go (Tr.seq (Tr.block (Tr.seq (Tr.block ?_)))))
  refine Tr.loopw [(0, _), (1, _), (2, _), (3, _), (10, _)] ⟨ke rfl, ke rfl, ke rfl, ke rfl, ke rfl, trivial⟩ (fun i2 : Int => [(9, int i2)]) (fun i2 : Int => (a < i2 ∧ i2 ≤ b) ∧ Adj c a i2 l) (fun i2 : Int => (b - i2).toNat) i (⟨⟨hi1, hi2⟩, hadj⟩) ⟨ke rfl, trivial⟩ ?_
  rintro i2 ⟨⟨hi3, hi4⟩, hadj2⟩
  refine Tr.seq (Tr.seq ?_)
  refine Tr.reg1 mixed (by kernel_rfl) ?_
  refine Ch.mv rfl rfl rfl rfl rfl ?_
  refine Ch.mv rfl rfl rfl rfl rfl ?_
  refine Ch.oo rfl rfl rfl (ok_int rfl (vl rfl) (vl rfl) rfl) ?_
  refine Ch.mv rfl rfl rfl rfl rfl ?_
  refine Ch.cs 22 rfl (fun h2 q2 => ?_) (fun h2 q2 => ?_)
  ·
   iterate 3 refine Ch.ym h2 rfl rfl rfl rfl rfl rfl rfl ?_
   refine Ch.y h2 rfl rfl rfl rfl rfl (okp_indexSl rfl Tryz.underlying29 sz40 (vl rfl) (vl rfl) (by omega) (by omega)) ?_
   refine Ch.y h2 rfl rfl rfl rfl rfl (ok_rd 0 rfl (rd_loadA rfl agg40 sz40 (vl rfl) (cells_atG (f := rowFc) (fun _ => rfl) (by omega)) rfl)) ?_
   refine Ch.ym h2 rfl rfl rfl rfl rfl rfl rfl ?_
   refine Ch.ym h2 rfl rfl rfl rfl rfl rfl rfl ?_
   first
    | (refine Ch.y h2 rfl rfl rfl rfl rfl (ok_sub rfl (vl rfl) (vl rfl) ?hin) ?_; case hin => unfold InI; omega)
    | refine Ch.y h2 rfl rfl rfl rfl rfl (ok_int rfl (vl rfl) (vl rfl) rfl) ?_
   refine Ch.y h2 rfl rfl rfl rfl rfl (okp_indexSl rfl Tryz.underlying29 sz40 (vl rfl) (vl rfl) (by omega) (by omega)) ?_
   refine Ch.y h2 rfl rfl rfl rfl rfl (ok_rd 0 rfl (rd_loadA rfl agg40 sz40 (vl rfl) (cells_atG (f := rowFc) (fun _ => rfl) (by omega)) rfl)) ?_
   refine Ch.y h2 rfl rfl rfl rfl rfl (ok_callc (_, _) rfl (vl rfl) ⟨ke rfl, ke rfl, trivial⟩) ?_
   refine Ch.y h2 rfl rfl rfl rfl rfl (ok_int rfl (vl rfl) (vl rfl) rfl) ?_
   refine Ch.y h2 rfl rfl rfl rfl rfl (ok_not rfl (vl rfl)) ?_
   refine Ch.oo rfl rfl rfl (ok_pick_t rfl (vl rfl) h2 (vl rfl)) ?_
   refine Ch.nil (Fin.go ?_)
   refine Tr.w7 0 1 2 3 9 10 36 rfl rfl rfl rfl rfl rfl rfl ?_
   refine Tr.cn rfl (fun h3 q3 => ?_) (fun h3 q3 => ?_)
   ·
    have := h3
    refine Tr.skip (Fin.go (Tr.block (Tr.reg0 ?_)))
    refine Ch.mv rfl rfl rfl rfl rfl ?_
    first
     | (refine Ch.oo rfl rfl rfl (ok_add rfl (vl rfl) (vl rfl) ?hin) ?_; case hin => unfold InI; omega)
     | refine Ch.oo rfl rfl rfl (ok_int rfl (vl rfl) (vl rfl) rfl) ?_
    refine Ch.as rfl rfl rfl rfl rfl ?_
    refine Ch.nil (Fin.block ?_)
    exact Fin.fam_same (i2 + 1) ⟨⟨⟨by omega, by omega⟩, hadj2.go h0 (by omega) rfl (by omega) (by omega) (by assumption)⟩, by omega⟩ ⟨ke rfl, ke rfl, ke rfl, ke rfl, ke rfl, ke rfl, trivial⟩
   ·
    have := h3
    refine Tr.exit ?_
    refine Fin.then_exit ?_
    refine Fin.then_exit ?_
    refine Fin.block_here ?_
    refine Fin.go (Tr.seq (Tr.seq (Tr.reg0 ?_)))
    refine Ch.mv rfl rfl rfl rfl rfl ?_
    refine Ch.mv rfl rfl rfl rfl rfl ?_
    refine Ch.oo rfl rfl rfl (ok_int rfl (vl rfl) (vl rfl) rfl) ?_
    refine Ch.nil (Fin.go ?_)
    refine Tr.cn rfl (fun h4 q4 => ?_) (fun h4 q4 => ?_)
    ·
     refine Tr.seq (Tr.reg0 ?_)
     refine Ch.as rfl rfl rfl rfl rfl ?_
     refine Ch.nil (Fin.go (Tr.ret ?_))
     refine Fin.then_ret ?_
     refine Fin.block_ret ?_
     refine Fin.then_ret ?_
     refine Fin.then_ret ?_
     refine Fin.block_ret ?_
     refine Fin.then_ret ?_
     refine Fin.retM1 rfl rfl ?_ (fun _ _ _ _ => rfl)
     · first | exact ex_in true (fact_in (fun _ => by rw [show b = i2 by omega]; exact hadj2.sorted hw) (Pr.le_refl _)) | exact ex_in false (fact_in (fun h => nomatch h) (Pr.le_refl _))
    ·
     refine Tr.skip (Fin.go (Tr.seq (Tr.seq (Tr.reg0 ?_))))
     refine Ch.mv rfl rfl rfl rfl rfl ?_
     refine Ch.mv rfl rfl rfl rfl rfl ?_
     first
      | (refine Ch.oo rfl rfl rfl (ok_sub rfl (vl rfl) (vl rfl) ?hin) ?_; case hin => unfold InI; omega)
      | refine Ch.oo rfl rfl rfl (ok_int rfl (vl rfl) (vl rfl) rfl) ?_
     refine Ch.oo rfl rfl rfl (ok_int rfl (vl rfl) (vl rfl) rfl) ?_
     refine Ch.nil (Fin.go ?_)
     refine Tr.w7 0 1 2 3 9 10 45 rfl rfl rfl rfl rfl rfl rfl ?_
     refine Tr.cn rfl (fun h5 q5 => ?_) (fun h5 q5 => ?_)
     ·
      refine Tr.seq (Tr.reg0 ?_)
      refine Ch.as rfl rfl rfl rfl rfl ?_
      refine Ch.nil (Fin.go (Tr.ret ?_))
      refine Fin.then_ret ?_
      refine Fin.block_ret ?_
      refine Fin.then_ret ?_
      refine Fin.then_ret ?_
      refine Fin.block_ret ?_
      refine Fin.then_ret ?_
      refine Fin.retM1 rfl rfl ?_ (fun _ _ _ _ => rfl)
      · first | exact ex_in true (fact_in (fun _ => by rw [show b = i2 by omega]; exact hadj2.sorted hw) (Pr.le_refl _)) | exact ex_in false (fact_in (fun h => nomatch h) (Pr.le_refl _))
     ·
      exfalso; omega
  ·
   iterate 13 refine Ch.nt h2 rfl rfl rfl rfl rfl ?_
   refine Ch.oo rfl rfl rfl (ok_pick_f rfl (vl rfl) h2 (vl rfl)) ?_
   refine Ch.nil (Fin.go ?_)
   refine Tr.w7 0 1 2 3 9 10 36 rfl rfl rfl rfl rfl rfl rfl ?_
   refine Tr.cond rfl (fun h => nomatch h) (fun _ => ?_)
   refine Tr.exit ?_
   refine Fin.then_exit ?_
   refine Fin.then_exit ?_
   refine Fin.block_here ?_
   refine Fin.go (Tr.seq (Tr.seq (Tr.reg0 ?_)))
   refine Ch.mv rfl rfl rfl rfl rfl ?_
   refine Ch.mv rfl rfl rfl rfl rfl ?_
   refine Ch.oo rfl rfl rfl (ok_int rfl (vl rfl) (vl rfl) rfl) ?_
   refine Ch.nil (Fin.go ?_)
   refine Tr.cn rfl (fun h6 q6 => ?_) (fun h6 q6 => ?_)
   ·
    refine Tr.seq (Tr.reg0 ?_)
    refine Ch.as rfl rfl rfl rfl rfl ?_
    refine Ch.nil (Fin.go (Tr.ret ?_))
    refine Fin.then_ret ?_
    refine Fin.block_ret ?_
    refine Fin.then_ret ?_
    refine Fin.then_ret ?_
    refine Fin.block_ret ?_
    refine Fin.then_ret ?_
    refine Fin.retM1 rfl rfl ?_ (fun _ _ _ _ => rfl)
    · first | exact ex_in true (fact_in (fun _ => by rw [show b = i2 by omega]; exact hadj2.sorted hw) (Pr.le_refl _)) | exact ex_in false (fact_in (fun h => nomatch h) (Pr.le_refl _))
   ·
    refine Tr.skip (Fin.go (Tr.seq (Tr.seq (Tr.reg0 ?_))))
    refine Ch.mv rfl rfl rfl rfl rfl ?_
    refine Ch.mv rfl rfl rfl rfl rfl ?_
    first
     | (refine Ch.oo rfl rfl rfl (ok_sub rfl (vl rfl) (vl rfl) ?hin) ?_; case hin => unfold InI; omega)
     | refine Ch.oo rfl rfl rfl (ok_int rfl (vl rfl) (vl rfl) rfl) ?_
    refine Ch.oo rfl rfl rfl (ok_int rfl (vl rfl) (vl rfl) rfl) ?_
    refine Ch.nil (Fin.go ?_)
    refine Tr.w7 0 1 2 3 9 10 45 rfl rfl rfl rfl rfl rfl rfl ?_
    refine Tr.cn rfl (fun h7 q7 => ?_) (fun h7 q7 => ?_)
    ·
     refine Tr.seq (Tr.reg0 ?_)
     refine Ch.as rfl rfl rfl rfl rfl ?_
     refine Ch.nil (Fin.go (Tr.ret ?_))
     refine Fin.then_ret ?_
     refine Fin.block_ret ?_
     refine Fin.then_ret ?_
     refine Fin.then_ret ?_
     refine Fin.block_ret ?_
     refine Fin.then_ret ?_
     refine Fin.retM1 rfl rfl ?_ (fun _ _ _ _ => rfl)
     · first | exact ex_in true (fact_in (fun _ => by rw [show b = i2 by omega]; exact hadj2.sorted hw) (Pr.le_refl _)) | exact ex_in false (fact_in (fun h => nomatch h) (Pr.le_refl _))
    ·
     exfalso; omega
 ·
  have hj5 : ¬ j < 5 := of_decide_eq_false h1
  exfalso; omega
set_option maxRecDepth 20000 in
theorem w_sord2F {sb : Nat} {l : List Fct} {c : Fct × Fct → Int} {b0 cap len : Nat} {sp : List Value} {a b : Int} (hln : l.length = len) (hll : len ≤ 1000000) (h0 : 0 ≤ a) (ha : a < len) (h1 : 0 ≤ b) (hb : b < len) : FunR Tryz.prog 159 [is (.slice (some ⟨b0, 0, none⟩) len cap), int a, int b, is (.pointer (some ⟨sb, 0, none⟩)), clo Tryz.prog (fun x : Fct × Fct => [agg (rowFc x.1), agg (rowFc x.2)]) (fun x => int (c x))] (ex fun z : Int × Int => fact ((z.1 = a ∧ z.2 = b) ∨ (z.1 = b ∧ z.2 = a)) (tup [int z.1, int z.2])) (cellsRes true sb 3 [anyK .i64]) (cellsRes true sb 3 [anyK .i64]) (cellsRes true b0 40 ((l.map rowFc).flatten ++ sp.map is)) := by
 refine FunR.of Tryz.func159 rfl rfl (by exact Nat.le_of_ble_eq_true rfl) fun M0 w0 S rs M1 w1 => ?_
 refine Tr.seq (Tr.reg0 ?_)
 refine Ch.as rfl rfl rfl rfl rfl ?_
 refine Ch.as rfl rfl rfl rfl rfl ?_
 refine Ch.nil (Fin.go (Tr.seq (Tr.seq ?_)))
 refine Tr.reg1 mixed (by kernel_rfl) ?_
 iterate 3 refine Ch.mv rfl rfl rfl rfl rfl ?_
 refine Ch.oo rfl rfl rfl (okp_indexSl rfl Tryz.underlying29 sz40 (vl rfl) (vl rfl) (by omega) (by omega)) ?_
 refine Ch.oo rfl rfl rfl (ok_rd 2 rfl (rd_loadA rfl agg40 sz40 (vl rfl) (cells_atG (f := rowFc) (fun _ => rfl) (by omega)) rfl)) ?_
 refine Ch.mv rfl rfl rfl rfl rfl ?_
 refine Ch.mv rfl rfl rfl rfl rfl ?_
 refine Ch.oo rfl rfl rfl (okp_indexSl rfl Tryz.underlying29 sz40 (vl rfl) (vl rfl) (by omega) (by omega)) ?_
 refine Ch.oo rfl rfl rfl (ok_rd 2 rfl (rd_loadA rfl agg40 sz40 (vl rfl) (cells_atG (f := rowFc) (fun _ => rfl) (by omega)) rfl)) ?_
 refine Ch.oo rfl rfl rfl (ok_callc (_, _) rfl (vl rfl) ⟨ke rfl, ke rfl, trivial⟩) ?_
 refine Ch.oo rfl rfl rfl (ok_int rfl (vl rfl) (vl rfl) rfl) ?_
 refine Ch.nil (Fin.go ?_)
 refine Tr.cn rfl (fun h1 q1 => ?_) (fun h1 q1 => ?_)
 ·
  refine Tr.seq (Tr.regT ?_)
  refine TO.mv rfl rfl rfl rfl rfl ?_
  refine TO.oo rfl rfl rfl (okp_nilCheck rfl (vl rfl)) ?_
  refine TO.rd 0 rfl rfl rfl (by decide) (rd_load1 rfl one3 (vl rfl) rfl) ?_
  refine TO.oo rfl rfl rfl (ok_addK rfl (vl rfl) (VL.le (vl rfl) (is_anyK _ _))) ?_
  refine TO.oo rfl rfl rfl (okp_nilCheck rfl (vl rfl)) ?_
  refine TO.store_all 0 rfl rfl rfl (vl rfl) (VL.le (vl rfl) (one_cellsP _)) rfl sz3 rfl rfl ?_
  refine TO.nil (Fin.go ?_)
  refine Tr.w2 1 2 rfl rfl ?_
  refine Tr.seq (Tr.reg0 ?_)
  refine Ch.mv rfl rfl rfl rfl rfl ?_
  refine Ch.mv rfl rfl rfl rfl rfl ?_
  refine Ch.as rfl rfl rfl rfl rfl ?_
  refine Ch.as rfl rfl rfl rfl rfl ?_
  refine Ch.nil (Fin.go (Tr.ret ?_))
  refine Fin.then_ret ?_
  refine Fin.retY2 [] rfl (RVal.tmp rfl (Pr.le_refl _)) (RVal.tmp rfl (Pr.le_refl _)) ?_
  · exact ex_in (b, a) (fact_in (.inr ⟨rfl, rfl⟩) (Pr.le_refl _))
 ·
  refine Tr.skip (Fin.go (Tr.seq (Tr.reg0 ?_)))
  refine Ch.mv rfl rfl rfl rfl rfl ?_
  refine Ch.mv rfl rfl rfl rfl rfl ?_
  refine Ch.as rfl rfl rfl rfl rfl ?_
  refine Ch.as rfl rfl rfl rfl rfl ?_
  refine Ch.nil (Fin.go ?_)
  refine Tr.w2 10 11 rfl rfl ?_
  refine Tr.ret ?_
  refine Fin.retY2 [] rfl (RVal.tmp rfl (Pr.le_refl _)) (RVal.tmp rfl (Pr.le_refl _)) ?_
  · exact ex_in (a, b) (fact_in (.inl ⟨rfl, rfl⟩) (Pr.le_refl _))
set_option maxRecDepth 20000 in
theorem w_smedF {sb : Nat} {l : List Fct} {c : Fct × Fct → Int} {b0 cap len : Nat} {sp : List Value} {a b d : Int} (hln : l.length = len) (hll : len ≤ 1000000) (h0 : 0 ≤ a) (ha : a < len) (h1 : 0 ≤ b) (hb : b < len) (h2 : 0 ≤ d) (hd : d < len) : FunR Tryz.prog 140 [is (.slice (some ⟨b0, 0, none⟩) len cap), int a, int b, int d, is (.pointer (some ⟨sb, 0, none⟩)), clo Tryz.prog (fun x : Fct × Fct => [agg (rowFc x.1), agg (rowFc x.2)]) (fun x => int (c x))] (ex fun z : Int => fact (z = a ∨ z = b ∨ z = d) (int z)) (cellsRes true sb 3 [anyK .i64]) (cellsRes true sb 3 [anyK .i64]) (cellsRes true b0 40 ((l.map rowFc).flatten ++ sp.map is)) := by
 refine FunR.of Tryz.func140 rfl rfl (by exact Nat.le_of_ble_eq_true rfl) fun M0 w0 S rs M1 w1 => ?_
 refine Tr.seq (Tr.reg0 ?_)
 refine Ch.as rfl rfl rfl rfl rfl ?_
 refine Ch.nil (Fin.go (Tr.seq (Tr.regT ?_)))
 iterate 5 refine TO.mv rfl rfl rfl rfl rfl ?_
 refine TO.callR 0 2 rfl rfl (by decide) rfl rfl (by decide) rfl (w_sord2F (by omega) (by omega) (by omega) (by omega) (by omega) (by omega)) ⟨ke rfl, ke rfl, ke rfl, ke rfl, ke rfl, trivial⟩ ?_
 refine TO.ex 19 rfl (fun z1 => TO.fact 19 rfl fun hz1 => ?_)
 refine TO.mv rfl rfl rfl rfl rfl ?_
 refine TO.oo rfl rfl rfl (ok_extract rfl (vl rfl) rfl) ?_
 refine TO.oo rfl rfl rfl (ok_extract rfl (vl rfl) rfl) ?_
 refine TO.as rfl rfl rfl rfl rfl ?_
 refine TO.as rfl rfl rfl rfl rfl ?_
 refine TO.nil (Fin.go (Tr.seq (Tr.regT ?_)))
 iterate 5 refine TO.mv rfl rfl rfl rfl rfl ?_
 refine TO.callR 0 2 rfl rfl (by decide) rfl rfl (by decide) rfl (w_sord2F (by omega) (by omega) (by omega) (by omega) (by omega) (by omega)) ⟨ke rfl, ke rfl, ke rfl, ke rfl, ke rfl, trivial⟩ ?_
 refine TO.ex 28 rfl (fun z2 => TO.fact 28 rfl fun hz2 => ?_)
 refine TO.mv rfl rfl rfl rfl rfl ?_
 refine TO.oo rfl rfl rfl (ok_extract rfl (vl rfl) rfl) ?_
 refine TO.oo rfl rfl rfl (ok_extract rfl (vl rfl) rfl) ?_
 refine TO.as rfl rfl rfl rfl rfl ?_
 refine TO.as rfl rfl rfl rfl rfl ?_
 refine TO.nil (Fin.go ?_)
 refine Tr.w5 0 1 2 4 5 rfl rfl rfl rfl rfl ?_
 refine Tr.seq (Tr.regT ?_)
 iterate 5 refine TO.mv rfl rfl rfl rfl rfl ?_
 refine TO.callR 0 2 rfl rfl (by decide) rfl rfl (by decide) rfl (w_sord2F (by omega) (by omega) (by omega) (by omega) (by omega) (by omega)) ⟨ke rfl, ke rfl, ke rfl, ke rfl, ke rfl, trivial⟩ ?_
 refine TO.ex 37 rfl (fun z3 => TO.fact 37 rfl fun hz3 => ?_)
 refine TO.mv rfl rfl rfl rfl rfl ?_
 refine TO.oo rfl rfl rfl (ok_extract rfl (vl rfl) rfl) ?_
 refine TO.oo rfl rfl rfl (ok_extract rfl (vl rfl) rfl) ?_
 refine TO.as rfl rfl rfl rfl rfl ?_
 refine TO.as rfl rfl rfl rfl rfl ?_
 refine TO.nil (Fin.go ?_)
 refine Tr.w1 2 rfl ?_
 refine Tr.seq (Tr.reg0 ?_)
 refine Ch.mv rfl rfl rfl rfl rfl ?_
 refine Ch.as rfl rfl rfl rfl rfl ?_
 refine Ch.nil (Fin.go (Tr.ret ?_))
 refine Fin.retM1 rfl rfl ?_ (fun _ _ _ _ => rfl)
 · exact ex_in _ (fact_in (by omega) (Pr.le_refl _))
set_option maxRecDepth 20000 in
theorem w_spivF {l : List Fct} {c : Fct × Fct → Int} {b0 cap len : Nat} {sp : List Value} {a b : Int} (hln : l.length = len) (hll : len ≤ 1000000) (h0 : 0 ≤ a) (hab : a < b) (hb : b ≤ len) (hb5 : b < 50) : FunM Tryz.prog 108 [is (.slice (some ⟨b0, 0, none⟩) len cap), int a, int b, clo Tryz.prog (fun x : Fct × Fct => [agg (rowFc x.1), agg (rowFc x.2)]) (fun x => int (c x))] (ex fun z : Int × Int => fact (a ≤ z.1 ∧ z.1 < b) (tup [int z.1, int z.2])) (cellsRes true b0 40 ((l.map rowFc).flatten ++ sp.map is)) (fun _ => cellsRes true b0 40 ((l.map rowFc).flatten ++ sp.map is)) := by
 refine FunM.of Tryz.func108 rfl rfl (by exact Nat.le_of_ble_eq_true rfl) fun M0 w0 S rs M1 w1 => ?_
 have hq := quart (n := b - a) (by omega) (by omega)
 obtain ⟨hq1, hq2, hq3⟩ := hq
 refine Tr.seq (Tr.reg0 ?_)
 refine Ch.as rfl rfl rfl rfl rfl ?_
 refine Ch.as rfl rfl rfl rfl rfl ?_
 refine Ch.nil (Fin.go (Tr.seq (Tr.reg0 ?_)))
 refine Ch.mv rfl rfl rfl rfl rfl ?_
 refine Ch.mv rfl rfl rfl rfl rfl ?_
 first
  | (refine Ch.oo rfl rfl rfl (ok_sub rfl (vl rfl) (vl rfl) ?hin) ?_; case hin => unfold InI; omega)
  | refine Ch.oo rfl rfl rfl (ok_int rfl (vl rfl) (vl rfl) rfl) ?_
 refine Ch.as rfl rfl rfl rfl rfl ?_
 refine Ch.nil (Fin.go (Tr.seq (Tr.regT ?_)))
 refine TO.alloc rfl rfl (by decide) rfl z3 zo3 (fun b1 => ?_)
 refine TO.nil (Fin.go (Tr.seq (Tr.reg0 ?_)))
 refine Ch.mv rfl rfl rfl rfl rfl ?_
 refine Ch.mv rfl rfl rfl rfl rfl ?_
 refine Ch.oo rfl rfl rfl (ok_quo rfl (vl rfl) (vl rfl) (by omega)) ?_
 first
  | (refine Ch.oo rfl rfl rfl (ok_mul rfl (vl rfl) (vl rfl) ?hin) ?_; case hin => unfold InI; omega)
  | refine Ch.oo rfl rfl rfl (ok_int rfl (vl rfl) (vl rfl) rfl) ?_
 first
  | (refine Ch.oo rfl rfl rfl (ok_add rfl (vl rfl) (vl rfl) ?hin) ?_; case hin => unfold InI; omega)
  | refine Ch.oo rfl rfl rfl (ok_int rfl (vl rfl) (vl rfl) rfl) ?_
 refine Ch.as rfl rfl rfl rfl rfl ?_
 refine Ch.nil (Fin.go ?_)
 refine Tr.w6 0 1 3 10 11 12 rfl rfl rfl rfl rfl rfl ?_
 refine Tr.seq (Tr.reg0 ?_)
 refine Ch.mv rfl rfl rfl rfl rfl ?_
 refine Ch.mv rfl rfl rfl rfl rfl ?_
 refine Ch.oo rfl rfl rfl (ok_quo rfl (vl rfl) (vl rfl) (by omega)) ?_
 first
  | (refine Ch.oo rfl rfl rfl (ok_mul rfl (vl rfl) (vl rfl) ?hin) ?_; case hin => unfold InI; omega)
  | refine Ch.oo rfl rfl rfl (ok_int rfl (vl rfl) (vl rfl) rfl) ?_
 first
  | (refine Ch.oo rfl rfl rfl (ok_add rfl (vl rfl) (vl rfl) ?hin) ?_; case hin => unfold InI; omega)
  | refine Ch.oo rfl rfl rfl (ok_int rfl (vl rfl) (vl rfl) rfl) ?_
 refine Ch.as rfl rfl rfl rfl rfl ?_
 refine Ch.nil (Fin.go (Tr.seq (Tr.reg0 ?_)))
 refine Ch.mv rfl rfl rfl rfl rfl ?_
 refine Ch.mv rfl rfl rfl rfl rfl ?_
 refine Ch.oo rfl rfl rfl (ok_quo rfl (vl rfl) (vl rfl) (by omega)) ?_
 first
  | (refine Ch.oo rfl rfl rfl (ok_mul rfl (vl rfl) (vl rfl) ?hin) ?_; case hin => unfold InI; omega)
  | refine Ch.oo rfl rfl rfl (ok_int rfl (vl rfl) (vl rfl) rfl) ?_
 first
  | (refine Ch.oo rfl rfl rfl (ok_add rfl (vl rfl) (vl rfl) ?hin) ?_; case hin => unfold InI; omega)
  | refine Ch.oo rfl rfl rfl (ok_int rfl (vl rfl) (vl rfl) rfl) ?_
 refine Ch.as rfl rfl rfl rfl rfl ?_
 refine Ch.nil (Fin.go ?_)
 refine Tr.w7 0 3 10 11 12 13 14 rfl rfl rfl rfl rfl rfl rfl ?_
 refine Tr.seq (Tr.seq (Tr.reg0 ?_))
 refine Ch.mv rfl rfl rfl rfl rfl ?_
 refine Ch.oo rfl rfl rfl (ok_int rfl (vl rfl) (vl rfl) rfl) ?_
 refine Ch.nil (Fin.go ?_)
 refine Tr.cn rfl (fun h1 q1 => ?_) (fun h1 q1 => ?_)
 ·
  refine Tr.seq (Tr.seq (Tr.reg0 ?_))
  refine Ch.mv rfl rfl rfl rfl rfl ?_
  refine Ch.oo rfl rfl rfl (ok_int rfl (vl rfl) (vl rfl) rfl) ?_
  refine Ch.nil (Fin.go ?_)
  refine Tr.cn rfl (fun h2 q2 => ?_) (fun h2 q2 => ?_)
  ·
   exfalso; omega
  ·
   refine Tr.skip (Fin.go ?_)
   refine Tr.leC 0 [anyK .i64] rfl ⟨is_anyK _ _, trivial⟩ ?_
   refine Tr.regT ?_
   iterate 5 refine TO.mv rfl rfl rfl rfl rfl ?_
   refine TO.callR 0 1 rfl rfl (by decide) rfl rfl (by decide) rfl (w_smedF (by omega) (by omega) (by omega) (by omega) (by omega) (by omega) (by omega) (by omega)) ⟨ke rfl, ke rfl, ke rfl, ke rfl, ke rfl, ke rfl, trivial⟩ ?_
   refine TO.ex 54 rfl (fun z1 => TO.fact 54 rfl fun hz1 => ?_)
   refine TO.as rfl rfl rfl rfl rfl ?_
   refine TO.nil (Fin.go ?_)
   refine Tr.w2 11 13 rfl rfl ?_
   refine Tr.seq (Tr.reg0 ?_)
   refine Ch.oo rfl rfl rfl (ok_rd 0 rfl (rd_load1 rfl one3 (vl rfl) rfl)) ?_
   refine Ch.nil (Fin.go ?_)
   refine Tr.drop 0 ?_
   refine Tr.block (Tr.seq ?_)
   refine Tr.ex 55 rfl fun sw => ?_
   refine Tr.reg0 ?_
   refine Ch.oo rfl rfl rfl (ok_int rfl (vl rfl) (vl rfl) rfl) ?_
   refine Ch.as rfl rfl rfl rfl rfl ?_
   refine Ch.nil (Fin.go ?_)
   refine Tr.cn rfl (fun h3 q3 => ?_) (fun h3 q3 => ?_)
   ·
    refine Tr.seq (Tr.reg0 ?_)
    refine Ch.mv rfl rfl rfl rfl rfl ?_
    refine Ch.as rfl rfl rfl rfl rfl ?_
    refine Ch.as rfl rfl rfl rfl rfl ?_
    refine Ch.nil (Fin.go (Tr.ret ?_))
    refine Fin.block_ret ?_
    refine Fin.retY2 [] rfl (RVal.tmp rfl (Pr.le_refl _)) (RVal.tmp rfl (Pr.le_refl _)) ?_
    · exact ex_in (_, _) (fact_in ⟨by omega, by omega⟩ (Pr.le_refl _))
   ·
    refine Tr.seq (Tr.reg0 ?_)
    refine Ch.oo rfl rfl rfl (ok_int rfl (vl rfl) (vl rfl) rfl) ?_
    refine Ch.as rfl rfl rfl rfl rfl ?_
    refine Ch.nil (Fin.go ?_)
    refine Tr.cn rfl (fun h4 q4 => ?_) (fun h4 q4 => ?_)
    ·
     refine Tr.seq (Tr.reg0 ?_)
     refine Ch.mv rfl rfl rfl rfl rfl ?_
     refine Ch.as rfl rfl rfl rfl rfl ?_
     refine Ch.as rfl rfl rfl rfl rfl ?_
     refine Ch.nil (Fin.go (Tr.ret ?_))
     refine Fin.block_ret ?_
     refine Fin.retY2 [] rfl (RVal.tmp rfl (Pr.le_refl _)) (RVal.tmp rfl (Pr.le_refl _)) ?_
     · exact ex_in (_, _) (fact_in ⟨by omega, by omega⟩ (Pr.le_refl _))
    ·
     refine Tr.seq (Tr.reg0 ?_)
     refine Ch.mv rfl rfl rfl rfl rfl ?_
     refine Ch.as rfl rfl rfl rfl rfl ?_
     refine Ch.as rfl rfl rfl rfl rfl ?_
     refine Ch.nil (Fin.go (Tr.ret ?_))
     refine Fin.block_ret ?_
     refine Fin.retY2 [] rfl (RVal.tmp rfl (Pr.le_refl _)) (RVal.tmp rfl (Pr.le_refl _)) ?_
     · exact ex_in (_, _) (fact_in ⟨by omega, by omega⟩ (Pr.le_refl _))
 ·
  refine Tr.skip (Fin.go (Tr.seq ?_))
  refine Tr.leC 0 [anyK .i64] rfl ⟨is_anyK _ _, trivial⟩ ?_
  refine Tr.reg0 ?_
  refine Ch.oo rfl rfl rfl (ok_rd 0 rfl (rd_load1 rfl one3 (vl rfl) rfl)) ?_
  refine Ch.nil (Fin.go ?_)
  refine Tr.drop 0 ?_
  refine Tr.block (Tr.seq ?_)
  refine Tr.ex 55 rfl fun sw => ?_
  refine Tr.reg0 ?_
  refine Ch.oo rfl rfl rfl (ok_int rfl (vl rfl) (vl rfl) rfl) ?_
  refine Ch.as rfl rfl rfl rfl rfl ?_
  refine Ch.nil (Fin.go ?_)
  refine Tr.cn rfl (fun h5 q5 => ?_) (fun h5 q5 => ?_)
  ·
   refine Tr.seq (Tr.reg0 ?_)
   refine Ch.mv rfl rfl rfl rfl rfl ?_
   refine Ch.as rfl rfl rfl rfl rfl ?_
   refine Ch.as rfl rfl rfl rfl rfl ?_
   refine Ch.nil (Fin.go ?_)
   refine Tr.w2 8 9 rfl rfl ?_
   refine Tr.ret ?_
   refine Fin.block_ret ?_
   refine Fin.retY2 [] rfl (RVal.tmp rfl (Pr.le_refl _)) (RVal.tmp rfl (Pr.le_refl _)) ?_
   · exact ex_in (_, _) (fact_in ⟨by omega, by omega⟩ (Pr.le_refl _))
  ·
   refine Tr.seq (Tr.reg0 ?_)
   refine Ch.oo rfl rfl rfl (ok_int rfl (vl rfl) (vl rfl) rfl) ?_
   refine Ch.as rfl rfl rfl rfl rfl ?_
   refine Ch.nil (Fin.go ?_)
   refine Tr.w2 13 60 rfl rfl ?_
   refine Tr.cn rfl (fun h6 q6 => ?_) (fun h6 q6 => ?_)
   ·
    refine Tr.seq (Tr.reg0 ?_)
    refine Ch.mv rfl rfl rfl rfl rfl ?_
    refine Ch.as rfl rfl rfl rfl rfl ?_
    refine Ch.as rfl rfl rfl rfl rfl ?_
    refine Ch.nil (Fin.go (Tr.ret ?_))
    refine Fin.block_ret ?_
    refine Fin.retY2 [] rfl (RVal.tmp rfl (Pr.le_refl _)) (RVal.tmp rfl (Pr.le_refl _)) ?_
    · exact ex_in (_, _) (fact_in ⟨by omega, by omega⟩ (Pr.le_refl _))
   ·
    refine Tr.seq (Tr.reg0 ?_)
    refine Ch.mv rfl rfl rfl rfl rfl ?_
    refine Ch.as rfl rfl rfl rfl rfl ?_
    refine Ch.as rfl rfl rfl rfl rfl ?_
    refine Ch.nil (Fin.go (Tr.ret ?_))
    refine Fin.block_ret ?_
    refine Fin.retY2 [] rfl (RVal.tmp rfl (Pr.le_refl _)) (RVal.tmp rfl (Pr.le_refl _)) ?_
    · exact ex_in (_, _) (fact_in ⟨by omega, by omega⟩ (Pr.le_refl _))
set_option maxRecDepth 20000 in
theorem w_sbrkF {l : List Fct} {c : Fct × Fct → Int} {b0 cap len : Nat} {sp : List Value} {a b : Int} (hln : l.length = len) (hll : len ≤ 1000000) (h0 : 0 ≤ a) (hab : a ≤ b) (hb : b ≤ len) (hb5 : b < 50) : FunM Tryz.prog 107 [is (.slice (some ⟨b0, 0, none⟩) len cap), int a, int b, clo Tryz.prog (fun x : Fct × Fct => [agg (rowFc x.1), agg (rowFc x.2)]) (fun x => int (c x))] (unit_) (cellsRes true b0 40 ((l.map rowFc).flatten ++ sp.map is)) (fun _ => relRes b0 40 rowFc (PermL a b l) (sp.map is)) := by
 refine FunM.of Tryz.func107 rfl rfl (by exact Nat.le_of_ble_eq_true rfl) fun M0 w0 S rs M1 w1 => ?_
 have hq := quart (n := b - a) (by omega) (by omega)
 obtain ⟨hq1, hq2, hq3⟩ := hq
 refine Tr.seq (Tr.reg0 ?_)
 refine Ch.mv rfl rfl rfl rfl rfl ?_
 refine Ch.mv rfl rfl rfl rfl rfl ?_
 first
  | (refine Ch.oo rfl rfl rfl (ok_sub rfl (vl rfl) (vl rfl) ?hin) ?_; case hin => unfold InI; omega)
  | refine Ch.oo rfl rfl rfl (ok_int rfl (vl rfl) (vl rfl) rfl) ?_
 refine Ch.as rfl rfl rfl rfl rfl ?_
 refine Ch.nil (Fin.go (Tr.seq (Tr.reg0 ?_)))
 refine Ch.mv rfl rfl rfl rfl rfl ?_
 refine Ch.oo rfl rfl rfl (ok_int rfl (vl rfl) (vl rfl) rfl) ?_
 refine Ch.nil (Fin.go ?_)
 refine Tr.cn rfl (fun h1 q1 => ?_) (fun h1 q1 => ?_)
 ·
  refine Tr.seq (Tr.regT ?_)
  refine TO.mv rfl rfl rfl rfl rfl ?_
  first
   | refine TO.oo rfl rfl rfl (ok_convI rfl Tryz.underlying3 Tryz.underlying151 (vl rfl) (by unfold InI; omega)) ?_
   | refine TO.oo rfl rfl rfl (ok_conv rfl Tryz.underlying3 Tryz.underlying151 (vl rfl)) ?_
  refine TO.alloc rfl rfl (by decide) rfl z151 zo151 (fun b1 => ?_)
  refine TO.store_all 0 rfl rfl rfl (vl rfl) (VL.le (vl rfl) (one_cellsP _)) rfl sz151 rfl rfl ?_
  refine TO.nil (Fin.go (Tr.seq ?_))
  refine Tr.leC 0 [anyK .u64] rfl ⟨is_anyK _ _, trivial⟩ ?_
  refine Tr.regT ?_
  refine TO.mv rfl rfl rfl rfl rfl ?_
  refine TO.oo rfl rfl rfl (ok_call rfl (w_npow (by omega) (by omega)) ⟨ke rfl, trivial⟩) ?_
  refine TO.ex 21 rfl (fun md => TO.fact 21 rfl fun hmd => ?_)
  obtain ⟨hmd1, hmd2⟩ := hmd
  have hwm : IntKind.u64.wrap (md - 1) = md - 1 := IntWalk.u64_in _ ⟨by omega, by omega⟩
  refine TO.as rfl rfl rfl rfl rfl ?_
  refine TO.nil (Fin.go (Tr.seq (Tr.reg0 ?_)))
  refine Ch.mv rfl rfl rfl rfl rfl ?_
  refine Ch.mv rfl rfl rfl rfl rfl ?_
  refine Ch.oo rfl rfl rfl (ok_quo rfl (vl rfl) (vl rfl) (by omega)) ?_
  first
   | (refine Ch.oo rfl rfl rfl (ok_mul rfl (vl rfl) (vl rfl) ?hin) ?_; case hin => unfold InI; omega)
   | refine Ch.oo rfl rfl rfl (ok_int rfl (vl rfl) (vl rfl) rfl) ?_
  first
   | (refine Ch.oo rfl rfl rfl (ok_add rfl (vl rfl) (vl rfl) ?hin) ?_; case hin => unfold InI; omega)
   | refine Ch.oo rfl rfl rfl (ok_int rfl (vl rfl) (vl rfl) rfl) ?_
  first
   | (refine Ch.oo rfl rfl rfl (ok_sub rfl (vl rfl) (vl rfl) ?hin) ?_; case hin => unfold InI; omega)
   | refine Ch.oo rfl rfl rfl (ok_int rfl (vl rfl) (vl rfl) rfl) ?_
  refine Ch.as rfl rfl rfl rfl rfl ?_
  refine Ch.nil (Fin.go ?_)
  refine Tr.w6 0 1 8 9 10 11 rfl rfl rfl rfl rfl rfl ?_
  refine Tr.block ?_
  refine Tr.loopD2V0 [(0, _), (1, _), (8, _), (9, _), (10, _)] ⟨ke rfl, ke rfl, ke rfl, ke rfl, ke rfl, trivial⟩ (fun (i : Int) (st : List Fct) => [(11, int i)]) (fun (i : Int) (st : List Fct) => Hp M0 w0 S (cellsRes true b1 151 [anyK .u64] :: cellsRes true b0 40 ((st.map rowFc).flatten ++ sp.map is) :: extRes M1 w1 :: rs)) (fun (i : Int) (st : List Fct) => (a ≤ i ∧ i ≤ b) ∧ st.length = len ∧ PermL a b l st) (fun (i : Int) (st : List Fct) => (b - i).toNat) (a + IntKind.i64.wrap ((b - a).tdiv 4) * 2 - 1) (l)  (⟨⟨by omega, by omega⟩, by omega, PermL.refl _ _ _⟩) ⟨ke rfl, trivial⟩ (fun _ _ h => h) ?_
  rintro i st  ⟨⟨hi1, hi2⟩, hsl, hso⟩
  refine Tr.seq (Tr.seq (Tr.reg0 ?_))
  iterate 3 refine Ch.mv rfl rfl rfl rfl rfl ?_
  refine Ch.oo rfl rfl rfl (ok_quo rfl (vl rfl) (vl rfl) (by omega)) ?_
  first
   | (refine Ch.oo rfl rfl rfl (ok_mul rfl (vl rfl) (vl rfl) ?hin) ?_; case hin => unfold InI; omega)
   | refine Ch.oo rfl rfl rfl (ok_int rfl (vl rfl) (vl rfl) rfl) ?_
  first
   | (refine Ch.oo rfl rfl rfl (ok_add rfl (vl rfl) (vl rfl) ?hin) ?_; case hin => unfold InI; omega)
   | refine Ch.oo rfl rfl rfl (ok_int rfl (vl rfl) (vl rfl) rfl) ?_
  first
   | (refine Ch.oo rfl rfl rfl (ok_add rfl (vl rfl) (vl rfl) ?hin) ?_; case hin => unfold InI; omega)
   | refine Ch.oo rfl rfl rfl (ok_int rfl (vl rfl) (vl rfl) rfl) ?_
  refine Ch.oo rfl rfl rfl (ok_int rfl (vl rfl) (vl rfl) rfl) ?_
  refine Ch.nil (Fin.go ?_)
  refine Tr.w7 0 1 8 9 10 11 35 rfl rfl rfl rfl rfl rfl rfl ?_
  refine Tr.cn rfl (fun h2 q2 => ?_) (fun h2 q2 => ?_)
  ·
   have := h2
   refine Tr.skip (Fin.go (Tr.seq (Tr.block (Tr.seq (Tr.regT ?_)))))
   refine TO.efc 0 rfl rfl (by decide) (ef_callc rfl rfl (by decide) rfl (w_xnext) ⟨ke rfl, trivial⟩) ?_
   refine TO.mv rfl rfl rfl rfl rfl ?_
   first
    | (refine TO.oo rfl rfl rfl (ok_sub rfl (vl rfl) (vl rfl) ?hin) ?_; case hin => unfold InI; omega)
    | refine TO.oo rfl rfl rfl (ok_int rfl (vl rfl) (vl rfl) rfl) ?_
   refine TO.oo rfl rfl rfl (ok_andle rfl (vl rfl) (vl rfl) (by omega) (by omega)) ?_
   
   refine TO.ex 41 rfl (fun z1 => TO.fact 41 rfl fun hz1 => ?_)
   first
    | refine TO.oo rfl rfl rfl (ok_convI rfl Tryz.underlying105 Tryz.underlying3 (vl rfl) (by unfold InI; omega)) ?_
    | refine TO.oo rfl rfl rfl (ok_conv rfl Tryz.underlying105 Tryz.underlying3 (vl rfl)) ?_
   refine TO.as rfl rfl rfl rfl rfl ?_
   refine TO.nil (Fin.go ?_)
   refine Tr.cutD1V0 [(0, _), (1, _), (8, _), (9, _), (10, _), (11, _)] ⟨ke rfl, ke rfl, ke rfl, ke rfl, ke rfl, ke rfl, trivial⟩ (fun (ot : Int) => [(12, int ot)]) (fun (ot : Int) => Hp M0 w0 S (cellsRes true b1 151 [anyK .u64] :: cellsRes true b0 40 ((st.map rowFc).flatten ++ sp.map is) :: extRes M1 w1 :: rs)) (fun (ot : Int) => 0 ≤ ot ∧ ot < b - a) ?_ ?_
   ·
    refine Tr.seq (Tr.reg0 ?_)
    refine Ch.mv rfl rfl rfl rfl rfl ?_
    refine Ch.mv rfl rfl rfl rfl rfl ?_
    refine Ch.oo rfl rfl rfl (ok_int rfl (vl rfl) (vl rfl) rfl) ?_
    refine Ch.nil (Fin.go ?_)
    refine Tr.w8 0 1 8 9 10 11 12 45 rfl rfl rfl rfl rfl rfl rfl rfl ?_
    refine Tr.cn rfl (fun h3 q3 => ?_) (fun h3 q3 => ?_)
    ·
     refine Tr.reg0 ?_
     refine Ch.mv rfl rfl rfl rfl rfl ?_
     refine Ch.mv rfl rfl rfl rfl rfl ?_
     first
      | (refine Ch.oo rfl rfl rfl (ok_sub rfl (vl rfl) (vl rfl) ?hin) ?_; case hin => unfold InI; omega)
      | refine Ch.oo rfl rfl rfl (ok_int rfl (vl rfl) (vl rfl) rfl) ?_
     refine Ch.as rfl rfl rfl rfl rfl ?_
     refine Ch.nil ?_
     exact Fin.famD1V0 (_)  (⟨by omega, by omega⟩) ⟨ke rfl, ke rfl, ke rfl, ke rfl, ke rfl, ke rfl, ke rfl, trivial⟩ (fun _ _ h => h)
    ·
     refine Tr.skip ?_
     exact Fin.famD1V0 (_)  (⟨by omega, by omega⟩) ⟨ke rfl, ke rfl, ke rfl, ke rfl, ke rfl, ke rfl, ke rfl, trivial⟩ (fun _ _ h => h)
   ·
    rintro ot  ⟨hot1, hot2⟩
    refine Tr.regX mixed [none, none, none, none, none, none, none, none, none, none, none, some (0, 1, false, 0), none, none, none, some (0, 1, false, 0), none, some (0, 1, true, 0), none, some (0, 1, true, 0)] (by kernel_rfl) ?_
    iterate 5 refine Cx.mv rfl rfl rfl rfl rfl ?_
    first
     | (refine Cx.oo rfl rfl rfl (fun _ => ok_add rfl (vl rfl) (vl rfl) ?hin) ?_; case hin => unfold InI; omega)
     | refine Cx.oo rfl rfl rfl (fun _ => ok_int rfl (vl rfl) (vl rfl) rfl) ?_
    iterate 3 refine Cx.mv rfl rfl rfl rfl rfl ?_
    first
     | (refine Cx.oo rfl rfl rfl (fun _ => ok_add rfl (vl rfl) (vl rfl) ?hin) ?_; case hin => unfold InI; omega)
     | refine Cx.oo rfl rfl rfl (fun _ => ok_int rfl (vl rfl) (vl rfl) rfl) ?_
    refine Cx.oo rfl rfl rfl (fun _ => okp_indexSl rfl Tryz.underlying29 sz40 (vl rfl) (vl rfl) (by omega) (by omega)) ?_
    refine Cx.rd 1 rfl rfl rfl (by decide) (rd_loadA rfl agg40 sz40 (vl rfl) (cells_atG (f := rowFc) (fun _ => rfl) (by omega)) rfl) ?_
    refine Cx.mv rfl rfl rfl rfl rfl ?_
    refine Cx.mv rfl rfl rfl rfl rfl ?_
    refine Cx.oo rfl rfl rfl (fun _ => okp_indexSl rfl Tryz.underlying29 sz40 (vl rfl) (vl rfl) (by omega) (by omega)) ?_
    refine Cx.rd 1 rfl rfl rfl (by decide) (rd_loadA rfl agg40 sz40 (vl rfl) (cells_atG (f := rowFc) (fun _ => rfl) (by omega)) rfl) ?_
    refine Cx.oo rfl rfl rfl (fun _ => okp_indexSl rfl Tryz.underlying29 sz40 (vl rfl) (vl rfl) (by omega) (by omega)) ?_
    refine Cx.ef0 1 rfl rfl (ef_store rfl rfl (vl rfl) (VL.le (vl rfl) (agg_cellsP _)) sz40 rfl (by rw [cells_len (sz := 8) (fun _ => rfl)]; first | omega | (simp only [List.length_set]; omega)) (cells_setG (f := rowFc) (fun _ => rfl) (by first | omega | (simp only [List.length_set]; omega)))) ?_
    refine Cx.oo rfl rfl rfl (fun _ => okp_indexSl rfl Tryz.underlying29 sz40 (vl rfl) (vl rfl) (by omega) (by omega)) ?_
    refine Cx.ef0 1 rfl rfl (ef_store rfl rfl (vl rfl) (VL.le (vl rfl) (agg_cellsP _)) sz40 rfl (by rw [cells_len (sz := 8) (fun _ => rfl)]; first | omega | (simp only [List.length_set]; omega)) (cells_setG (f := rowFc) (fun _ => rfl) (by first | omega | (simp only [List.length_set]; omega)))) ?_
    refine Cx.nil ⟨rfl, ?_⟩
    refine FinX.done (AllC.cons (AllC.cons (AllC.cons (AllC.map _)))) ?_
    refine Fin.block (Fin.go ?_)
    refine Tr.w6 0 1 8 9 10 11 rfl rfl rfl rfl rfl rfl ?_
    refine Tr.reg0 ?_
    refine Ch.mv rfl rfl rfl rfl rfl ?_
    first
     | (refine Ch.oo rfl rfl rfl (ok_add rfl (vl rfl) (vl rfl) ?hin) ?_; case hin => unfold InI; omega)
     | refine Ch.oo rfl rfl rfl (ok_int rfl (vl rfl) (vl rfl) rfl) ?_
    refine Ch.as rfl rfl rfl rfl rfl ?_
    refine Ch.nil ?_
    exact Fin.famD2V0 (i + 1) (_)  (⟨⟨⟨by omega, by omega⟩, by simp only [List.length_set]; exact hsl, hso.swap (by omega) (by omega) (by omega) (by omega) (by omega) (by omega) (by omega)⟩, by omega⟩) ⟨ke rfl, ke rfl, ke rfl, ke rfl, ke rfl, ke rfl, trivial⟩ (fun _ _ h => h)
  ·
   have := h2
   refine Tr.exit ?_
   refine Fin.then_exit ?_
   refine Fin.then_exit ?_
   refine Fin.block_here ?_
   refine Fin.closeL (PermL a b l) 1 rfl (by first | exact hso | exact PermL.refl _ _ _) ?_
   refine Fin.drop 0 ?_
   exact Fin.retM0 rfl
 ·
  refine Tr.skip ?_
  refine Fin.closeL (PermL a b l) 0 rfl (by first | exact hso | exact PermL.refl _ _ _) ?_
  exact Fin.retM0 rfl
end Go.Proofs.YthmnoekgicggnaaGreat
namespace Cp
open Go Go.RowKit Go.Great
section
variable {P : Program} {n : Nat} {E : Env} {M0 : Av} {w0 : World} {S : Nat → Prop} {rs : List Res} {β : Type} {e : TypeId} {sz : Nat} {f : β → List Pr} {Φ : List β → Prop} {v : Value}
def ownRel (e : TypeId) (sz : Nat) (f : β → List Pr) (Φ : List β → Prop) (v : Value) : Res where
  blk := match v with | .slice (some a) _ _ => some a.block | _ => none
  new := true
  h M w := ∃ st : List β, Φ st ∧ (ownRes e sz (st.map f) v).h M w
  st M w M' w' he hk h := let ⟨st, h1, h2⟩ := h; ⟨st, h1, (ownRes e sz (st.map f) v).st M w M' w' he hk h2⟩
theorem FunM.own_rel {g : FuncId} {l : List β} {ps : List Pr} {res : Pr} [Free res] (h0 : l = [] → Fun P g (is (.slice none 0 0) :: ps) res ∧ Φ [])
    (h1 : ∀ (b cap : Nat) (sp : List Value), FunM P g (is (.slice (some ⟨b, 0, none⟩) l.length cap) :: ps) res (cellsRes true b e ((l.map f).flatten ++ sp.map is)) (fun _ => relRes b e f Φ (sp.map is)))
    (hl : ∀ st, Φ st → st.length = l.length) (hE : Entry P g) : FunM P g (is v :: ps) res (ownRes e sz (l.map f) v) (fun _ => ownRel e sz f Φ v) := by
  refine ⟨hE, fun M0 w0 S rs M w vs hI hv => ?_⟩
  have hb0 := hI.hold _ (List.mem_cons_self ..)
  rcases hb0.1 with ⟨hnil, rfl⟩ | hmut
  · have hln : l = [] := by simpa using hnil
    obtain ⟨h01, h02⟩ := h0 hln
    refine (h01.2 M w vs hI.bd hv).mono ?_
    rintro e' w' ⟨u, rfl, h2, h3⟩
    have hI' : HpH M0 w0 S (ownRes e sz (l.map f) (.slice none 0 0) :: rs) M w' := (Hp M0 w0 S _).st _ _ _ h3 hI
    exact ⟨u, M, rfl, Free.free _ _ _ _ h2, Ext.below h3, hI'.swap1 (i := 0) rfl rfl rfl ⟨[], h02, .inl ⟨rfl, rfl⟩⟩⟩
  · obtain ⟨b, cap, spare, rfl, hnc, hcm, hsp, hcr⟩ := hmut
    have hC := hI.swap1 (i := 0) (r' := cellsRes true b e ((l.map f).flatten ++ spare.map is)) rfl rfl rfl hcr
    have hlm : (l.map f).length = l.length := List.length_map ..
    rw [hlm] at hv
    refine ((h1 b cap spare).2 M0 w0 S rs M w vs hC hv).mono ?_
    rintro e' w' ⟨u, M', rfl, h2, h3, h4⟩
    refine ⟨u, M', rfl, h2, h3, ?_⟩
    obtain ⟨st, hp, hst⟩ := (h4.hold _ (List.mem_cons_self ..)).1
    have hlen : (st.map f).length = (l.map f).length := by rw [List.length_map, List.length_map, hl st hp]
    exact h4.swap1 (i := 0) rfl rfl rfl ⟨st, hp, .inr ⟨b, cap, spare, by rw [hlen], by rw [hlen]; exact hnc, hcm, by rw [hlen]; exact hsp, hst⟩⟩
theorem St.frzL (j d : Nat) {p : Pr} (hj : rs[j]? = some (ownRel e sz f Φ v)) (hd : E.lookup d = some (andIs v p)) (hf : ∀ x, (f x).length = sz) {a : Act} {w : World} (hs : St n E (Hp M0 w0 S rs) a w) :
    ∃ st : List β, Φ st ∧ St n ((d, andIs v (slice sz (st.map f))) :: E) (Hp M0 w0 S (rs.set j (appRes e sz v))) a w := by
  obtain ⟨M, h1, h2, h3, h4⟩ := hs
  have h4 : HpH M0 w0 S rs M w := h4
  have hjl : j < rs.length := by rcases Nat.lt_or_ge j rs.length with h | h; exact h; rw [List.getElem?_eq_none h] at hj; cases hj
  obtain ⟨st, hp, hst⟩ := (h4.hold _ (List.mem_of_getElem? hj)).1
  have h5 := h4.swap1 (r' := ownRes e sz (st.map f) v) hj rfl rfl hst
  obtain ⟨M', h6, h7, h8⟩ := HpH.frzO h5 (List.getElem?_set_self hjl) (map_rows hf)
  rw [List.set_set] at h7
  refine ⟨st, hp, M', h1, h2, fun s q hq => ?_, h7⟩
  simp only [List.lookup] at hq
  split at hq
  · rename_i e1
    have : s = d := by simpa using e1
    subst this
    simp only [Option.some.injEq] at hq
    subst hq
    have h9 := (h3 _ _ hd).1
    exact ⟨h9, by rw [h9]; exact h8⟩
  · exact q.st _ _ _ _ _ h6 (h3 s q hq)
theorem TO.frzL {Q : Exit → Act → World → Prop} {ops : Array Oper} {r : List Oper} (j d : Nat) {p : Pr} (hj : rs[j]? = some (ownRel e sz f Φ v)) (hd : E.lookup d = some (andIs v p)) (hf : ∀ x, (f x).length = sz)
    (k : ∀ st : List β, Φ st → TO P n ops r ((d, andIs v (slice sz (st.map f))) :: E) (Hp M0 w0 S (rs.set j (appRes e sz v))) Q) : TO P n ops r E (Hp M0 w0 S rs) Q :=
  fun m hl a w hs => let ⟨st, h1, h2⟩ := hs.frzL j d hj hd hf; k st h1 m hl a w h2
theorem Tr.frzL {Q : Exit → Act → World → Prop} {c : Code} (j d : Nat) {p : Pr} (hj : rs[j]? = some (ownRel e sz f Φ v)) (hd : E.lookup d = some (andIs v p)) (hf : ∀ x, (f x).length = sz)
    (k : ∀ st : List β, Φ st → Tr P n ((d, andIs v (slice sz (st.map f))) :: E) (Hp M0 w0 S (rs.set j (appRes e sz v))) c Q) : Tr P n E (Hp M0 w0 S rs) c Q :=
  fun a w hs => let ⟨st, h1, h2⟩ := hs.frzL j d hj hd hf; k st h1 a w h2
theorem own_cast {rows rows' : List (List Pr)} (h : rows = rows') {M : Av} {w : World} (k : (Hp M0 w0 S (ownRes e sz rows v :: rs)).h M w) : (Hp M0 w0 S (ownRes e sz rows' v :: rs)).h M w := by subst h; exact k
theorem lens_nil {rows : List (List Pr)} (h : rows = []) : Pr.le (is (.slice none 0 0)) (andIs (.slice none 0 0) (lens rows.length)) := by
  subst h; exact fun _ _ _ hv => ⟨hv, ⟨none, 0, by rw [hv]; rfl⟩⟩
theorem lens_le {v : Value} {a b : Nat} (h : a = b) : Pr.le (andIs v (lens a)) (andIs v (lens b)) := by subst h; exact Pr.le_refl _
end
end Cp
namespace Go.Proofs.YthmnoekgicggnaaGreat
open Go Go.RowKit Cp
set_option maxRecDepth 20000 in
theorem w_spdq0F {l : List Fct} {c : Fct × Fct → Int} {b0 cap len : Nat} {sp : List Value} {a b lim : Int} (hln : l.length = len) (hll : len ≤ 1000000) (hw : Go.Sort.SWO (ltc c)) (hc5 : len < 50) (hB : Go.Sort.Below (ltc c) a.toNat b.toNat l.toArray) (h0 : 0 ≤ a) (hab : a ≤ b) (hb : b ≤ len) (hl0 : 0 ≤ lim) (hl1 : lim ≤ 100) (m : Nat) (hm : (b - a).toNat < m) (ih : ∀ {l : List Fct} {a b lim : Int} {sp : List Value}, l.length = len → Go.Sort.Below (ltc c) a.toNat b.toNat l.toArray → 0 ≤ a → a ≤ b → b ≤ len → 0 ≤ lim → lim ≤ 100 → (b - a).toNat + 1 < m → FunM Tryz.prog 65 [is (.slice (some ⟨b0, 0, none⟩) len cap), int a, int b, int lim, clo Tryz.prog (fun x : Fct × Fct => [agg (rowFc x.1), agg (rowFc x.2)]) (fun x => int (c x))] (unit_) (cellsRes true b0 40 ((l.map rowFc).flatten ++ sp.map is)) (fun _ => relRes b0 40 rowFc (SortL c a b l) (sp.map is)))  : FunM Tryz.prog 65 [is (.slice (some ⟨b0, 0, none⟩) len cap), int a, int b, int lim, clo Tryz.prog (fun x : Fct × Fct => [agg (rowFc x.1), agg (rowFc x.2)]) (fun x => int (c x))] (unit_) (cellsRes true b0 40 ((l.map rowFc).flatten ++ sp.map is)) (fun _ => relRes b0 40 rowFc (SortL c a b l) (sp.map is)) := by
 refine FunM.of Tryz.func65 rfl rfl (by exact Nat.le_of_ble_eq_true rfl) fun M0 w0 S rs M1 w1 => ?_
 have hls : b.toNat ≤ l.toArray.size := by simp only [List.size_toArray]; omega
 refine Tr.seq (Tr.reg0 ?_)
 refine Ch.as rfl rfl rfl rfl rfl ?_
 refine Ch.nil (Fin.go (Tr.seq (Tr.reg0 ?_)))
 refine Ch.as rfl rfl rfl rfl rfl ?_
 refine Ch.nil (Fin.go (Tr.block ?_))
 refine Tr.loopD4V0 [(0, _), (4, _)] ⟨ke rfl, ke rfl, trivial⟩ (fun (a1 : Int) (b1 : Int) (p : Int × Bool × Bool) (st : List Fct) => [(1, int a1), (2, int b1), (3, int p.1), (10, bool p.2.1), (11, bool p.2.2)]) (fun (a1 : Int) (b1 : Int) (p : Int × Bool × Bool) (st : List Fct) => Hp M0 w0 S (cellsRes true b0 40 ((st.map rowFc).flatten ++ sp.map is) :: extRes M1 w1 :: rs)) (fun (a1 : Int) (b1 : Int) (p : Int × Bool × Bool) (st : List Fct) => ((a ≤ a1 ∧ a1 ≤ b1 ∧ b1 ≤ b) ∧ 0 ≤ p.1 ∧ p.1 ≤ 100) ∧ st.length = len ∧ PS (ltc c) a.toNat b.toNat a1.toNat b1.toNat l.toArray st.toArray) (fun (a1 : Int) (b1 : Int) (p : Int × Bool × Bool) (st : List Fct) => (b1 - a1).toNat) (a) (b) ((lim, (true, true))) (l)  (⟨⟨⟨by omega, hab, by omega⟩, hl0, hl1⟩, hln, PS.init (by omega) hB⟩) ⟨ke rfl, ke rfl, ke rfl, ke rfl, ke rfl, trivial⟩ (fun _ _ h => h) ?_
 rintro a1 b1 p st  ⟨⟨⟨ha1, ha2, ha3⟩, hpl, hpl2⟩, hsl, hps⟩
 refine Tr.block (Tr.seq (Tr.reg0 ?_))
 refine Ch.mv rfl rfl rfl rfl rfl ?_
 refine Ch.mv rfl rfl rfl rfl rfl ?_
 first
  | (refine Ch.oo rfl rfl rfl (ok_sub rfl (vl rfl) (vl rfl) ?hin) ?_; case hin => unfold InI; omega)
  | refine Ch.oo rfl rfl rfl (ok_int rfl (vl rfl) (vl rfl) rfl) ?_
 refine Ch.as rfl rfl rfl rfl rfl ?_
 refine Ch.nil (Fin.go (Tr.seq (Tr.seq (Tr.reg0 ?_))))
 refine Ch.mv rfl rfl rfl rfl rfl ?_
 refine Ch.oo rfl rfl rfl (ok_int rfl (vl rfl) (vl rfl) rfl) ?_
 refine Ch.nil (Fin.go ?_)
 refine Tr.cn rfl (fun h1 q1 => ?_) (fun h1 q1 => ?_)
 ·
  refine Tr.seq (Tr.regT ?_)
  iterate 4 refine TO.mv rfl rfl rfl rfl rfl ?_
  refine TO.efc 0 rfl rfl (by decide) (ef_callc rfl rfl (by decide) rfl (w_sinsF (by first | omega | (simp only [List.length_set]; omega)) (by omega) hw (by omega) (by omega) (by omega)) ⟨ke rfl, ke rfl, ke rfl, ke rfl, trivial⟩) ?_
  refine TO.openL 0 rfl fun t1 hp1 => ?_
  have hpl1 := hp1.len
  have hdone := (hps.perm hls hp1.1).done hp1.2
  refine TO.nil (Fin.go ?_)
  refine Tr.weak [] trivial ?_
  refine Tr.ret ?_
  refine Fin.then_ret ?_
  refine Fin.block_ret ?_
  refine Fin.then_ret ?_
  refine Fin.block_ret ?_
  refine Fin.closeL (SortL c a b l) 0 rfl (hdone) ?_
  exact Fin.retM0r rfl
 ·
  refine Tr.skip (Fin.go (Tr.seq (Tr.seq (Tr.reg0 ?_))))
  refine Ch.mv rfl rfl rfl rfl rfl ?_
  refine Ch.oo rfl rfl rfl (ok_int rfl (vl rfl) (vl rfl) rfl) ?_
  refine Ch.nil (Fin.go ?_)
  refine Tr.w9 0 1 2 3 4 10 11 12 32 rfl rfl rfl rfl rfl rfl rfl rfl rfl ?_
  refine Tr.cn rfl (fun h2 q2 => ?_) (fun h2 q2 => ?_)
  ·
   refine Tr.seq (Tr.regT ?_)
   iterate 4 refine TO.mv rfl rfl rfl rfl rfl ?_
   refine TO.efc 0 rfl rfl (by decide) (ef_callc rfl rfl (by decide) rfl (w_sheapF (by first | omega | (simp only [List.length_set]; omega)) (by omega) hw (by omega) (by omega) (by omega)) ⟨ke rfl, ke rfl, ke rfl, ke rfl, trivial⟩) ?_
   refine TO.openL 0 rfl fun t2 hp2 => ?_
   have hpl2 := hp2.len
   have hdone := (hps.perm hls hp2.1).done hp2.2
   refine TO.nil (Fin.go ?_)
   refine Tr.weak [] trivial ?_
   refine Tr.ret ?_
   refine Fin.then_ret ?_
   refine Fin.block_ret ?_
   refine Fin.then_ret ?_
   refine Fin.block_ret ?_
   refine Fin.closeL (SortL c a b l) 0 rfl (hdone) ?_
   exact Fin.retM0r rfl
  ·
   refine Tr.skip (Fin.go ?_)
   refine Tr.cutD2V0 [(0, _), (1, _), (2, _), (4, _), (10, _), (11, _), (12, _)] ⟨ke rfl, ke rfl, ke rfl, ke rfl, ke rfl, ke rfl, ke rfl, trivial⟩ (fun (lim2 : Int) (st2 : List Fct) => [(3, int lim2)]) (fun (lim2 : Int) (st2 : List Fct) => Hp M0 w0 S (cellsRes true b0 40 ((st2.map rowFc).flatten ++ sp.map is) :: extRes M1 w1 :: rs)) (fun (lim2 : Int) (st2 : List Fct) => 0 ≤ lim2 ∧ lim2 ≤ 100 ∧ st2.length = len ∧ PS (ltc c) a.toNat b.toNat a1.toNat b1.toNat l.toArray st2.toArray) ?_ ?_
   ·
    refine Tr.seq (Tr.reg0 ?_)
    refine Ch.mv rfl rfl rfl rfl rfl ?_
    refine Ch.oo rfl rfl rfl (ok_not rfl (vl rfl)) ?_
    refine Ch.nil (Fin.go ?_)
    refine Tr.cn rfl (fun h3 q3 => ?_) (fun h3 q3 => ?_)
    ·
     refine Tr.seq (Tr.regT ?_)
     iterate 4 refine TO.mv rfl rfl rfl rfl rfl ?_
     refine TO.efc 0 rfl rfl (by decide) (ef_callc rfl rfl (by decide) rfl (w_sbrkF (by first | omega | (simp only [List.length_set]; omega)) (by omega) (by omega) (by omega) (by omega) (by omega)) ⟨ke rfl, ke rfl, ke rfl, ke rfl, trivial⟩) ?_
     refine TO.openL 0 rfl fun t3 hp3 => ?_
     have hpl3 := hp3.len
     have hps := hps.perm hls hp3
     refine TO.nil (Fin.go ?_)
     refine Tr.w8 0 1 2 3 4 10 11 12 rfl rfl rfl rfl rfl rfl rfl rfl ?_
     refine Tr.reg0 ?_
     refine Ch.mv rfl rfl rfl rfl rfl ?_
     first
      | (refine Ch.oo rfl rfl rfl (ok_sub rfl (vl rfl) (vl rfl) ?hin) ?_; case hin => unfold InI; omega)
      | refine Ch.oo rfl rfl rfl (ok_int rfl (vl rfl) (vl rfl) rfl) ?_
     refine Ch.as rfl rfl rfl rfl rfl ?_
     refine Ch.nil ?_
     exact Fin.famD2V0 (_) (_)  (⟨by omega, by omega, by omega, hps⟩) ⟨ke rfl, ke rfl, ke rfl, ke rfl, ke rfl, ke rfl, ke rfl, ke rfl, trivial⟩ (fun _ _ h => h)
    ·
     refine Tr.skip ?_
     exact Fin.famD2V0 (_) (_)  (⟨by omega, by omega, by omega, hps⟩) ⟨ke rfl, ke rfl, ke rfl, ke rfl, ke rfl, ke rfl, ke rfl, ke rfl, trivial⟩ (fun _ _ h => h)
   ·
    rintro lim2 st2  ⟨hlm2, hlm3, hsl2, hps⟩
    refine Tr.seq (Tr.regT ?_)
    iterate 4 refine TO.mv rfl rfl rfl rfl rfl ?_
    refine TO.efc 0 rfl rfl (by decide) (ef_callc rfl rfl (by decide) rfl (w_spivF (by first | omega | (simp only [List.length_set]; omega)) (by omega) (by omega) (by omega) (by omega) (by omega)) ⟨ke rfl, ke rfl, ke rfl, ke rfl, trivial⟩) ?_
    refine TO.ex 52 rfl (fun z1 => TO.fact 52 rfl fun hz1 => ?_)
    obtain ⟨hpv1, hpv2⟩ := hz1
    refine TO.mv rfl rfl rfl rfl rfl ?_
    refine TO.oo rfl rfl rfl (ok_extract rfl (vl rfl) rfl) ?_
    refine TO.oo rfl rfl rfl (ok_extract rfl (vl rfl) rfl) ?_
    refine TO.as rfl rfl rfl rfl rfl ?_
    refine TO.as rfl rfl rfl rfl rfl ?_
    refine TO.nil (Fin.go ?_)
    refine Tr.w10 0 1 2 3 4 10 11 12 13 14 rfl rfl rfl rfl rfl rfl rfl rfl rfl rfl ?_
    refine Tr.cutD3V0 [(0, _), (1, _), (2, _), (3, _), (4, _), (10, _), (11, _), (12, _)] ⟨ke rfl, ke rfl, ke rfl, ke rfl, ke rfl, ke rfl, ke rfl, ke rfl, trivial⟩ (fun (pv : Int) (hint : Int) (st3 : List Fct) => [(13, int pv), (14, int hint)]) (fun (pv : Int) (hint : Int) (st3 : List Fct) => Hp M0 w0 S (cellsRes true b0 40 ((st3.map rowFc).flatten ++ sp.map is) :: extRes M1 w1 :: rs)) (fun (pv : Int) (hint : Int) (st3 : List Fct) => (a1 ≤ pv ∧ pv < b1) ∧ st3.length = len ∧ PS (ltc c) a.toNat b.toNat a1.toNat b1.toNat l.toArray st3.toArray) ?_ ?_
    ·
     refine Tr.seq (Tr.reg0 ?_)
     refine Ch.mv rfl rfl rfl rfl rfl ?_
     refine Ch.oo rfl rfl rfl (ok_int rfl (vl rfl) (vl rfl) rfl) ?_
     refine Ch.nil (Fin.go ?_)
     refine Tr.cn rfl (fun h4 q4 => ?_) (fun h4 q4 => ?_)
     ·
      refine Tr.seq (Tr.regT ?_)
      iterate 4 refine TO.mv rfl rfl rfl rfl rfl ?_
      refine TO.efc 0 rfl rfl (by decide) (ef_callc rfl rfl (by decide) rfl (w_srevF (by first | omega | (simp only [List.length_set]; omega)) (by omega) (by omega) (by omega) (by omega)) ⟨ke rfl, ke rfl, ke rfl, ke rfl, trivial⟩) ?_
      refine TO.openL 0 rfl fun t5 hp5 => ?_
      have hpl5 := hp5.len
      have hps := hps.perm hls hp5
      refine TO.nil (Fin.go ?_)
      refine Tr.w9 0 1 2 3 4 10 11 12 13 rfl rfl rfl rfl rfl rfl rfl rfl rfl ?_
      refine Tr.seq (Tr.reg0 ?_)
      refine Ch.mv rfl rfl rfl rfl rfl ?_
      first
       | (refine Ch.oo rfl rfl rfl (ok_sub rfl (vl rfl) (vl rfl) ?hin) ?_; case hin => unfold InI; omega)
       | refine Ch.oo rfl rfl rfl (ok_int rfl (vl rfl) (vl rfl) rfl) ?_
      refine Ch.mv rfl rfl rfl rfl rfl ?_
      refine Ch.mv rfl rfl rfl rfl rfl ?_
      first
       | (refine Ch.oo rfl rfl rfl (ok_sub rfl (vl rfl) (vl rfl) ?hin) ?_; case hin => unfold InI; omega)
       | refine Ch.oo rfl rfl rfl (ok_int rfl (vl rfl) (vl rfl) rfl) ?_
      first
       | (refine Ch.oo rfl rfl rfl (ok_sub rfl (vl rfl) (vl rfl) ?hin) ?_; case hin => unfold InI; omega)
       | refine Ch.oo rfl rfl rfl (ok_int rfl (vl rfl) (vl rfl) rfl) ?_
      refine Ch.as rfl rfl rfl rfl rfl ?_
      refine Ch.nil (Fin.go ?_)
      refine Tr.w9 0 1 2 3 4 10 11 12 13 rfl rfl rfl rfl rfl rfl rfl rfl rfl ?_
      refine Tr.reg0 ?_
      refine Ch.as rfl rfl rfl rfl rfl ?_
      refine Ch.nil ?_
      exact Fin.famD3V0 (_) (_) (_)  (⟨⟨by omega, by omega⟩, by omega, hps⟩) ⟨ke rfl, ke rfl, ke rfl, ke rfl, ke rfl, ke rfl, ke rfl, ke rfl, ke rfl, ke rfl, trivial⟩ (fun _ _ h => h)
     ·
      refine Tr.skip ?_
      exact Fin.famD3V0 (_) (_) (_)  (⟨⟨by omega, by omega⟩, by omega, hps⟩) ⟨ke rfl, ke rfl, ke rfl, ke rfl, ke rfl, ke rfl, ke rfl, ke rfl, ke rfl, ke rfl, trivial⟩ (fun _ _ h => h)
    ·
     rintro pv hint st3  ⟨⟨hpv1, hpv2⟩, hsl3, hps⟩
     refine Tr.w10 0 1 2 3 4 10 11 12 13 14 rfl rfl rfl rfl rfl rfl rfl rfl rfl rfl ?_
     refine Tr.cutk [0, 1, 2, 3, 4, 10, 11, 12, 13] [] (True) ?_ (fun h5 => ?_)
     ·
      refine Tr.seq (Tr.reg0 ?_)
      refine Ch.mv rfl rfl rfl rfl rfl ?_
      refine Ch.mv rfl rfl rfl rfl rfl ?_
      refine Ch.cs 69 rfl (fun h6 q6 => ?_) (fun h6 q6 => ?_)
      ·
       refine Ch.ym h6 rfl rfl rfl rfl rfl rfl rfl ?_
       refine Ch.oo rfl rfl rfl (ok_pick_t rfl (vl rfl) h6 (vl rfl)) ?_
       refine Ch.mv rfl rfl rfl rfl rfl ?_
       refine Ch.cs 72 rfl (fun h7 q7 => ?_) (fun h7 q7 => ?_)
       ·
        refine Ch.ym h7 rfl rfl rfl rfl rfl rfl rfl ?_
        refine Ch.y h7 rfl rfl rfl rfl rfl (ok_int rfl (vl rfl) (vl rfl) rfl) ?_
        refine Ch.oo rfl rfl rfl (ok_pick_t rfl (vl rfl) h7 (vl rfl)) ?_
        refine Ch.nil (Fin.go ?_)
        refine Tr.w10 0 1 2 3 4 10 11 12 13 75 rfl rfl rfl rfl rfl rfl rfl rfl rfl rfl ?_
        refine Tr.cn rfl (fun h8 q8 => ?_) (fun h8 q8 => ?_)
        ·
         refine Tr.seq (Tr.regT ?_)
         iterate 4 refine TO.mv rfl rfl rfl rfl rfl ?_
         refine TO.efc 0 rfl rfl (by decide) (ef_callc rfl rfl (by decide) rfl (w_sins5F (by first | omega | (simp only [List.length_set]; omega)) (by omega) hw (by omega) (by omega) (by omega) (by omega)) ⟨ke rfl, ke rfl, ke rfl, ke rfl, trivial⟩) ?_
         refine TO.ex 80 rfl (fun z2 => TO.fact 80 rfl fun hz2 => ?_)
         have hzz := hz2
         refine TO.nil (Fin.go ?_)
         refine Tr.w10 0 1 2 3 4 10 11 12 13 80 rfl rfl rfl rfl rfl rfl rfl rfl rfl rfl ?_
         refine Tr.cn rfl (fun h9 q9 => ?_) (fun h9 q9 => ?_)
         ·
          have hdone := hps.done (hzz h9)
          refine Tr.ret ?_
          refine Fin.then_ret ?_
          refine Fin.block_ret ?_
          refine Fin.then_ret ?_
          refine Fin.block_ret ?_
          refine Fin.closeL (SortL c a b l) 0 rfl (hdone) ?_
          exact Fin.retM0r rfl
         ·
          refine Tr.skip ?_
          exact Fin.fam_same () (by simp_all) ⟨ke rfl, ke rfl, ke rfl, ke rfl, ke rfl, ke rfl, ke rfl, ke rfl, ke rfl, trivial⟩
        ·
         refine Tr.skip ?_
         exact Fin.fam_same () (by simp_all) ⟨ke rfl, ke rfl, ke rfl, ke rfl, ke rfl, ke rfl, ke rfl, ke rfl, ke rfl, trivial⟩
       ·
        refine Ch.nt h7 rfl rfl rfl rfl rfl ?_
        refine Ch.nt h7 rfl rfl rfl rfl rfl ?_
        refine Ch.oo rfl rfl rfl (ok_pick_f rfl (vl rfl) h7 (vl rfl)) ?_
        refine Ch.nil (Fin.go ?_)
        refine Tr.w10 0 1 2 3 4 10 11 12 13 75 rfl rfl rfl rfl rfl rfl rfl rfl rfl rfl ?_
        refine Tr.cond rfl (fun h => nomatch h) (fun _ => ?_)
        refine Tr.skip ?_
        exact Fin.fam_same () (by simp_all) ⟨ke rfl, ke rfl, ke rfl, ke rfl, ke rfl, ke rfl, ke rfl, ke rfl, ke rfl, trivial⟩
      ·
       refine Ch.nt h6 rfl rfl rfl rfl rfl ?_
       refine Ch.oo rfl rfl rfl (ok_pick_f rfl (vl rfl) h6 (vl rfl)) ?_
       refine Ch.mv rfl rfl rfl rfl rfl ?_
       refine Ch.nd rfl rfl rfl rfl rfl rfl ?_
       refine Ch.nd rfl rfl rfl rfl rfl rfl ?_
       refine Ch.oo rfl rfl rfl (ok_pick_f rfl (vl rfl) rfl (vl rfl)) ?_
       refine Ch.nil (Fin.go ?_)
       refine Tr.w10 0 1 2 3 4 10 11 12 13 75 rfl rfl rfl rfl rfl rfl rfl rfl rfl rfl ?_
       refine Tr.cond rfl (fun h => nomatch h) (fun _ => ?_)
       refine Tr.skip ?_
       exact Fin.fam_same () (by simp_all) ⟨ke rfl, ke rfl, ke rfl, ke rfl, ke rfl, ke rfl, ke rfl, ke rfl, ke rfl, trivial⟩
     ·
      refine Tr.seq (Tr.seq ?_)
      refine Tr.reg1 mixed (by kernel_rfl) ?_
      refine Ch.mv rfl rfl rfl rfl rfl ?_
      refine Ch.oo rfl rfl rfl (ok_int rfl (vl rfl) (vl rfl) rfl) ?_
      refine Ch.mv rfl rfl rfl rfl rfl ?_
      refine Ch.cs 83 rfl (fun h10 q10 => ?_) (fun h10 q10 => ?_)
      ·
       iterate 3 refine Ch.ym h10 rfl rfl rfl rfl rfl rfl rfl ?_
       first
        | (refine Ch.y h10 rfl rfl rfl rfl rfl (ok_sub rfl (vl rfl) (vl rfl) ?hin) ?_; case hin => unfold InI; omega)
        | refine Ch.y h10 rfl rfl rfl rfl rfl (ok_int rfl (vl rfl) (vl rfl) rfl) ?_
       refine Ch.y h10 rfl rfl rfl rfl rfl (okp_indexSl rfl Tryz.underlying29 sz40 (vl rfl) (vl rfl) (by omega) (by omega)) ?_
       refine Ch.y h10 rfl rfl rfl rfl rfl (ok_rd 0 rfl (rd_loadA rfl agg40 sz40 (vl rfl) (cells_atG (f := rowFc) (fun _ => rfl) (by omega)) rfl)) ?_
       refine Ch.ym h10 rfl rfl rfl rfl rfl rfl rfl ?_
       refine Ch.ym h10 rfl rfl rfl rfl rfl rfl rfl ?_
       refine Ch.y h10 rfl rfl rfl rfl rfl (okp_indexSl rfl Tryz.underlying29 sz40 (vl rfl) (vl rfl) (by omega) (by omega)) ?_
       refine Ch.y h10 rfl rfl rfl rfl rfl (ok_rd 0 rfl (rd_loadA rfl agg40 sz40 (vl rfl) (cells_atG (f := rowFc) (fun _ => rfl) (by omega)) rfl)) ?_
       refine Ch.y h10 rfl rfl rfl rfl rfl (ok_callc (_, _) rfl (vl rfl) ⟨ke rfl, ke rfl, trivial⟩) ?_
       refine Ch.y h10 rfl rfl rfl rfl rfl (ok_int rfl (vl rfl) (vl rfl) rfl) ?_
       refine Ch.y h10 rfl rfl rfl rfl rfl (ok_not rfl (vl rfl)) ?_
       refine Ch.oo rfl rfl rfl (ok_pick_t rfl (vl rfl) h10 (vl rfl)) ?_
       refine Ch.nil (Fin.go ?_)
       refine Tr.w10 0 1 2 3 4 10 11 12 13 97 rfl rfl rfl rfl rfl rfl rfl rfl rfl rfl ?_
       refine Tr.cn rfl (fun h11 q11 => ?_) (fun h11 q11 => ?_)
       ·
        refine Tr.seq (Tr.regT ?_)
        iterate 5 refine TO.mv rfl rfl rfl rfl rfl ?_
        refine TO.efc 0 rfl rfl (by decide) (ef_callc rfl rfl (by decide) rfl (w_speqF (by first | omega | (simp only [List.length_set]; omega)) (by omega) (by omega) (by omega) (by omega) (by omega) (by omega)) ⟨ke rfl, ke rfl, ke rfl, ke rfl, ke rfl, trivial⟩) ?_
        refine TO.openL 0 rfl fun t7 hp7 => ?_
        have hpl7 := hp7.len
        obtain ⟨hps, hk1, hk2⟩ := hps.eqL hw hls hp7 (by omega) (by omega) rfl (by omega) (by omega) (by omega) (by omega) (by omega) (by assumption)
        refine TO.as rfl rfl rfl rfl rfl ?_
        refine TO.nil (Fin.go ?_)
        refine Tr.w7 0 2 3 4 10 11 15 rfl rfl rfl rfl rfl rfl rfl ?_
        refine Tr.seq (Tr.reg0 ?_)
        refine Ch.mv rfl rfl rfl rfl rfl ?_
        refine Ch.as rfl rfl rfl rfl rfl ?_
        refine Ch.nil (Fin.go (Tr.exit ?_))
        refine Fin.then_exit ?_
        refine Fin.block_here ?_
        exact Fin.famD4V0 (_) (_) ((lim2, (_, _))) (_)  (⟨⟨⟨⟨by omega, by omega, by omega⟩, hlm2, hlm3⟩, by omega, by first | exact hps | (rw [Int.toNat_natCast]; exact hps) | (rw [show (((k : Nat) : Int) + 1).toNat = k + 1 by omega]; exact hps)⟩, by omega⟩) ⟨ke rfl, ke rfl, ke rfl, ke rfl, ke rfl, ke rfl, ke rfl, trivial⟩ (fun _ _ h => h)
       ·
        refine Tr.skip (Fin.go (Tr.seq (Tr.regT ?_)))
        iterate 5 refine TO.mv rfl rfl rfl rfl rfl ?_
        refine TO.efc 0 rfl rfl (by decide) (ef_callc rfl rfl (by decide) rfl (w_spartF (by first | omega | (simp only [List.length_set]; omega)) (by omega) (by omega) (by omega) (by omega) (by omega) (by omega)) ⟨ke rfl, ke rfl, ke rfl, ke rfl, ke rfl, trivial⟩) ?_
        refine TO.ex 111 rfl (fun z3 => TO.fact 111 rfl fun hz3 => ?_)
        refine TO.openL 0 rfl fun t8 hp8 => ?_
        have hpl8 := hp8.len
        obtain ⟨hPm, hPt⟩ := parted_of hw hp8 (by omega) (by omega) (by omega) (by omega)
        have hps := hps.perm hls hPm
        have hk1 := hPt.h1
        have hk2 := hPt.h2
        generalize (PA c a1 b1 pv st3).1 = k at *
        refine TO.mv rfl rfl rfl rfl rfl ?_
        refine TO.oo rfl rfl rfl (ok_extract rfl (vl rfl) rfl) ?_
        refine TO.oo rfl rfl rfl (ok_extract rfl (vl rfl) rfl) ?_
        refine TO.as rfl rfl rfl rfl rfl ?_
        refine TO.as rfl rfl rfl rfl rfl ?_
        refine TO.nil (Fin.go ?_)
        refine Tr.w8 0 1 2 3 4 12 16 17 rfl rfl rfl rfl rfl rfl rfl rfl ?_
        refine Tr.seq (Tr.reg0 ?_)
        refine Ch.mv rfl rfl rfl rfl rfl ?_
        refine Ch.as rfl rfl rfl rfl rfl ?_
        refine Ch.nil (Fin.go (Tr.seq (Tr.reg0 ?_)))
        refine Ch.mv rfl rfl rfl rfl rfl ?_
        refine Ch.mv rfl rfl rfl rfl rfl ?_
        first
         | (refine Ch.oo rfl rfl rfl (ok_sub rfl (vl rfl) (vl rfl) ?hin) ?_; case hin => unfold InI; omega)
         | refine Ch.oo rfl rfl rfl (ok_int rfl (vl rfl) (vl rfl) rfl) ?_
        refine Ch.mv rfl rfl rfl rfl rfl ?_
        refine Ch.mv rfl rfl rfl rfl rfl ?_
        first
         | (refine Ch.oo rfl rfl rfl (ok_sub rfl (vl rfl) (vl rfl) ?hin) ?_; case hin => unfold InI; omega)
         | refine Ch.oo rfl rfl rfl (ok_int rfl (vl rfl) (vl rfl) rfl) ?_
        refine Ch.as rfl rfl rfl rfl rfl ?_
        refine Ch.as rfl rfl rfl rfl rfl ?_
        refine Ch.nil (Fin.go ?_)
        refine Tr.w10 0 1 2 3 4 11 12 16 18 19 rfl rfl rfl rfl rfl rfl rfl rfl rfl rfl ?_
        refine Tr.seq (Tr.reg0 ?_)
        refine Ch.mv rfl rfl rfl rfl rfl ?_
        refine Ch.oo rfl rfl rfl (ok_quo rfl (vl rfl) (vl rfl) (by omega)) ?_
        refine Ch.as rfl rfl rfl rfl rfl ?_
        refine Ch.nil (Fin.go (Tr.seq (Tr.reg0 ?_)))
        refine Ch.mv rfl rfl rfl rfl rfl ?_
        refine Ch.mv rfl rfl rfl rfl rfl ?_
        refine Ch.oo rfl rfl rfl (ok_int rfl (vl rfl) (vl rfl) rfl) ?_
        refine Ch.nil (Fin.go ?_)
        refine Tr.w11 0 1 2 3 4 11 16 18 19 20 125 rfl rfl rfl rfl rfl rfl rfl rfl rfl rfl rfl ?_
        refine Tr.cn rfl (fun h12 q12 => ?_) (fun h12 q12 => ?_)
        ·
         refine Tr.seq (Tr.reg0 ?_)
         refine Ch.mv rfl rfl rfl rfl rfl ?_
         refine Ch.mv rfl rfl rfl rfl rfl ?_
         refine Ch.oo rfl rfl rfl (ok_int rfl (vl rfl) (vl rfl) rfl) ?_
         refine Ch.as rfl rfl rfl rfl rfl ?_
         refine Ch.nil (Fin.go ?_)
         refine Tr.w8 0 1 2 3 4 10 11 16 rfl rfl rfl rfl rfl rfl rfl rfl ?_
         refine Tr.seq (Tr.regT ?_)
         iterate 5 refine TO.mv rfl rfl rfl rfl rfl ?_
         refine TO.efc 0 rfl rfl (by decide) (ef_callc rfl rfl (by decide) rfl (ih (by omega) (by first | exact hps.belowL (Nat.le_of_lt hPt.h2) | exact hPt.belowR) (by omega) (by omega) (by omega) (by omega) (by omega) (by omega)) ⟨ke rfl, ke rfl, ke rfl, ke rfl, ke rfl, trivial⟩) ?_
         refine TO.openL 0 rfl fun t9 hp9 => ?_
         have hpl9 := hp9.len
         first | have hps := hps.left hw hls hPt hp9.1 hp9.2 | have hps := hps.right hw hls hPt hp9.1 hp9.2
         refine TO.nil (Fin.go ?_)
         refine Tr.w7 0 2 3 4 10 11 16 rfl rfl rfl rfl rfl rfl rfl ?_
         refine Tr.reg0 ?_
         refine Ch.mv rfl rfl rfl rfl rfl ?_
         first
          | (refine Ch.oo rfl rfl rfl (ok_add rfl (vl rfl) (vl rfl) ?hin) ?_; case hin => unfold InI; omega)
          | refine Ch.oo rfl rfl rfl (ok_int rfl (vl rfl) (vl rfl) rfl) ?_
         refine Ch.as rfl rfl rfl rfl rfl ?_
         refine Ch.nil (Fin.block ?_)
         exact Fin.famD4V0 (_) (_) ((lim2, (_, _))) (_)  (⟨⟨⟨⟨by omega, by omega, by omega⟩, hlm2, hlm3⟩, by omega, by first | exact hps | (rw [Int.toNat_natCast]; exact hps) | (rw [show (((k : Nat) : Int) + 1).toNat = k + 1 by omega]; exact hps)⟩, by omega⟩) ⟨ke rfl, ke rfl, ke rfl, ke rfl, ke rfl, ke rfl, ke rfl, trivial⟩ (fun _ _ h => h)
        ·
         refine Tr.seq (Tr.reg0 ?_)
         refine Ch.mv rfl rfl rfl rfl rfl ?_
         refine Ch.mv rfl rfl rfl rfl rfl ?_
         refine Ch.oo rfl rfl rfl (ok_int rfl (vl rfl) (vl rfl) rfl) ?_
         refine Ch.as rfl rfl rfl rfl rfl ?_
         refine Ch.nil (Fin.go ?_)
         refine Tr.w8 0 1 2 3 4 10 11 16 rfl rfl rfl rfl rfl rfl rfl rfl ?_
         refine Tr.seq (Tr.regT ?_)
         refine TO.mv rfl rfl rfl rfl rfl ?_
         refine TO.mv rfl rfl rfl rfl rfl ?_
         first
          | (refine TO.oo rfl rfl rfl (ok_add rfl (vl rfl) (vl rfl) ?hin) ?_; case hin => unfold InI; omega)
          | refine TO.oo rfl rfl rfl (ok_int rfl (vl rfl) (vl rfl) rfl) ?_
         iterate 3 refine TO.mv rfl rfl rfl rfl rfl ?_
         refine TO.efc 0 rfl rfl (by decide) (ef_callc rfl rfl (by decide) rfl (ih (by omega) (by first | exact hps.belowL (Nat.le_of_lt hPt.h2) | exact hPt.belowR) (by omega) (by omega) (by omega) (by omega) (by omega) (by omega)) ⟨ke rfl, ke rfl, ke rfl, ke rfl, ke rfl, trivial⟩) ?_
         refine TO.openL 0 rfl fun t10 hp10 => ?_
         have hpl10 := hp10.len
         first | have hps := hps.left hw hls hPt hp10.1 hp10.2 | have hps := hps.right hw hls hPt hp10.1 hp10.2
         refine TO.nil (Fin.go ?_)
         refine Tr.w7 0 1 3 4 10 11 16 rfl rfl rfl rfl rfl rfl rfl ?_
         refine Tr.reg0 ?_
         refine Ch.mv rfl rfl rfl rfl rfl ?_
         refine Ch.as rfl rfl rfl rfl rfl ?_
         refine Ch.nil (Fin.block ?_)
         exact Fin.famD4V0 (_) (_) ((lim2, (_, _))) (_)  (⟨⟨⟨⟨by omega, by omega, by omega⟩, hlm2, hlm3⟩, by omega, by first | exact hps | (rw [Int.toNat_natCast]; exact hps) | (rw [show (((k : Nat) : Int) + 1).toNat = k + 1 by omega]; exact hps)⟩, by omega⟩) ⟨ke rfl, ke rfl, ke rfl, ke rfl, ke rfl, ke rfl, ke rfl, trivial⟩ (fun _ _ h => h)
      ·
       iterate 13 refine Ch.nt h10 rfl rfl rfl rfl rfl ?_
       refine Ch.oo rfl rfl rfl (ok_pick_f rfl (vl rfl) h10 (vl rfl)) ?_
       refine Ch.nil (Fin.go ?_)
       refine Tr.w10 0 1 2 3 4 10 11 12 13 97 rfl rfl rfl rfl rfl rfl rfl rfl rfl rfl ?_
       refine Tr.cond rfl (fun h => nomatch h) (fun _ => ?_)
       refine Tr.skip (Fin.go (Tr.seq (Tr.regT ?_)))
       iterate 5 refine TO.mv rfl rfl rfl rfl rfl ?_
       refine TO.efc 0 rfl rfl (by decide) (ef_callc rfl rfl (by decide) rfl (w_spartF (by first | omega | (simp only [List.length_set]; omega)) (by omega) (by omega) (by omega) (by omega) (by omega) (by omega)) ⟨ke rfl, ke rfl, ke rfl, ke rfl, ke rfl, trivial⟩) ?_
       refine TO.ex 111 rfl (fun z4 => TO.fact 111 rfl fun hz4 => ?_)
       refine TO.openL 0 rfl fun t11 hp11 => ?_
       have hpl11 := hp11.len
       obtain ⟨hPm, hPt⟩ := parted_of hw hp11 (by omega) (by omega) (by omega) (by omega)
       have hps := hps.perm hls hPm
       have hk1 := hPt.h1
       have hk2 := hPt.h2
       generalize (PA c a1 b1 pv st3).1 = k at *
       refine TO.mv rfl rfl rfl rfl rfl ?_
       refine TO.oo rfl rfl rfl (ok_extract rfl (vl rfl) rfl) ?_
       refine TO.oo rfl rfl rfl (ok_extract rfl (vl rfl) rfl) ?_
       refine TO.as rfl rfl rfl rfl rfl ?_
       refine TO.as rfl rfl rfl rfl rfl ?_
       refine TO.nil (Fin.go ?_)
       refine Tr.w8 0 1 2 3 4 12 16 17 rfl rfl rfl rfl rfl rfl rfl rfl ?_
       refine Tr.seq (Tr.reg0 ?_)
       refine Ch.mv rfl rfl rfl rfl rfl ?_
       refine Ch.as rfl rfl rfl rfl rfl ?_
       refine Ch.nil (Fin.go (Tr.seq (Tr.reg0 ?_)))
       refine Ch.mv rfl rfl rfl rfl rfl ?_
       refine Ch.mv rfl rfl rfl rfl rfl ?_
       first
        | (refine Ch.oo rfl rfl rfl (ok_sub rfl (vl rfl) (vl rfl) ?hin) ?_; case hin => unfold InI; omega)
        | refine Ch.oo rfl rfl rfl (ok_int rfl (vl rfl) (vl rfl) rfl) ?_
       refine Ch.mv rfl rfl rfl rfl rfl ?_
       refine Ch.mv rfl rfl rfl rfl rfl ?_
       first
        | (refine Ch.oo rfl rfl rfl (ok_sub rfl (vl rfl) (vl rfl) ?hin) ?_; case hin => unfold InI; omega)
        | refine Ch.oo rfl rfl rfl (ok_int rfl (vl rfl) (vl rfl) rfl) ?_
       refine Ch.as rfl rfl rfl rfl rfl ?_
       refine Ch.as rfl rfl rfl rfl rfl ?_
       refine Ch.nil (Fin.go ?_)
       refine Tr.w10 0 1 2 3 4 11 12 16 18 19 rfl rfl rfl rfl rfl rfl rfl rfl rfl rfl ?_
       refine Tr.seq (Tr.reg0 ?_)
       refine Ch.mv rfl rfl rfl rfl rfl ?_
       refine Ch.oo rfl rfl rfl (ok_quo rfl (vl rfl) (vl rfl) (by omega)) ?_
       refine Ch.as rfl rfl rfl rfl rfl ?_
       refine Ch.nil (Fin.go (Tr.seq (Tr.reg0 ?_)))
       refine Ch.mv rfl rfl rfl rfl rfl ?_
       refine Ch.mv rfl rfl rfl rfl rfl ?_
       refine Ch.oo rfl rfl rfl (ok_int rfl (vl rfl) (vl rfl) rfl) ?_
       refine Ch.nil (Fin.go ?_)
       refine Tr.w11 0 1 2 3 4 11 16 18 19 20 125 rfl rfl rfl rfl rfl rfl rfl rfl rfl rfl rfl ?_
       refine Tr.cn rfl (fun h13 q13 => ?_) (fun h13 q13 => ?_)
       ·
        refine Tr.seq (Tr.reg0 ?_)
        refine Ch.mv rfl rfl rfl rfl rfl ?_
        refine Ch.mv rfl rfl rfl rfl rfl ?_
        refine Ch.oo rfl rfl rfl (ok_int rfl (vl rfl) (vl rfl) rfl) ?_
        refine Ch.as rfl rfl rfl rfl rfl ?_
        refine Ch.nil (Fin.go ?_)
        refine Tr.w8 0 1 2 3 4 10 11 16 rfl rfl rfl rfl rfl rfl rfl rfl ?_
        refine Tr.seq (Tr.regT ?_)
        iterate 5 refine TO.mv rfl rfl rfl rfl rfl ?_
        refine TO.efc 0 rfl rfl (by decide) (ef_callc rfl rfl (by decide) rfl (ih (by omega) (by first | exact hps.belowL (Nat.le_of_lt hPt.h2) | exact hPt.belowR) (by omega) (by omega) (by omega) (by omega) (by omega) (by omega)) ⟨ke rfl, ke rfl, ke rfl, ke rfl, ke rfl, trivial⟩) ?_
        refine TO.openL 0 rfl fun t12 hp12 => ?_
        have hpl12 := hp12.len
        first | have hps := hps.left hw hls hPt hp12.1 hp12.2 | have hps := hps.right hw hls hPt hp12.1 hp12.2
        refine TO.nil (Fin.go ?_)
        refine Tr.w7 0 2 3 4 10 11 16 rfl rfl rfl rfl rfl rfl rfl ?_
        refine Tr.reg0 ?_
        refine Ch.mv rfl rfl rfl rfl rfl ?_
        first
         | (refine Ch.oo rfl rfl rfl (ok_add rfl (vl rfl) (vl rfl) ?hin) ?_; case hin => unfold InI; omega)
         | refine Ch.oo rfl rfl rfl (ok_int rfl (vl rfl) (vl rfl) rfl) ?_
        refine Ch.as rfl rfl rfl rfl rfl ?_
        refine Ch.nil (Fin.block ?_)
        exact Fin.famD4V0 (_) (_) ((lim2, (_, _))) (_)  (⟨⟨⟨⟨by omega, by omega, by omega⟩, hlm2, hlm3⟩, by omega, by first | exact hps | (rw [Int.toNat_natCast]; exact hps) | (rw [show (((k : Nat) : Int) + 1).toNat = k + 1 by omega]; exact hps)⟩, by omega⟩) ⟨ke rfl, ke rfl, ke rfl, ke rfl, ke rfl, ke rfl, ke rfl, trivial⟩ (fun _ _ h => h)
       ·
        refine Tr.seq (Tr.reg0 ?_)
        refine Ch.mv rfl rfl rfl rfl rfl ?_
        refine Ch.mv rfl rfl rfl rfl rfl ?_
        refine Ch.oo rfl rfl rfl (ok_int rfl (vl rfl) (vl rfl) rfl) ?_
        refine Ch.as rfl rfl rfl rfl rfl ?_
        refine Ch.nil (Fin.go ?_)
        refine Tr.w8 0 1 2 3 4 10 11 16 rfl rfl rfl rfl rfl rfl rfl rfl ?_
        refine Tr.seq (Tr.regT ?_)
        refine TO.mv rfl rfl rfl rfl rfl ?_
        refine TO.mv rfl rfl rfl rfl rfl ?_
        first
         | (refine TO.oo rfl rfl rfl (ok_add rfl (vl rfl) (vl rfl) ?hin) ?_; case hin => unfold InI; omega)
         | refine TO.oo rfl rfl rfl (ok_int rfl (vl rfl) (vl rfl) rfl) ?_
        iterate 3 refine TO.mv rfl rfl rfl rfl rfl ?_
        refine TO.efc 0 rfl rfl (by decide) (ef_callc rfl rfl (by decide) rfl (ih (by omega) (by first | exact hps.belowL (Nat.le_of_lt hPt.h2) | exact hPt.belowR) (by omega) (by omega) (by omega) (by omega) (by omega) (by omega)) ⟨ke rfl, ke rfl, ke rfl, ke rfl, ke rfl, trivial⟩) ?_
        refine TO.openL 0 rfl fun t13 hp13 => ?_
        have hpl13 := hp13.len
        first | have hps := hps.left hw hls hPt hp13.1 hp13.2 | have hps := hps.right hw hls hPt hp13.1 hp13.2
        refine TO.nil (Fin.go ?_)
        refine Tr.w7 0 1 3 4 10 11 16 rfl rfl rfl rfl rfl rfl rfl ?_
        refine Tr.reg0 ?_
        refine Ch.mv rfl rfl rfl rfl rfl ?_
        refine Ch.as rfl rfl rfl rfl rfl ?_
        refine Ch.nil (Fin.block ?_)
        exact Fin.famD4V0 (_) (_) ((lim2, (_, _))) (_)  (⟨⟨⟨⟨by omega, by omega, by omega⟩, hlm2, hlm3⟩, by omega, by first | exact hps | (rw [Int.toNat_natCast]; exact hps) | (rw [show (((k : Nat) : Int) + 1).toNat = k + 1 by omega]; exact hps)⟩, by omega⟩) ⟨ke rfl, ke rfl, ke rfl, ke rfl, ke rfl, ke rfl, ke rfl, trivial⟩ (fun _ _ h => h)
theorem w_spdqF : ∀ (m : Nat) {l : List Fct} {c : Fct × Fct → Int} {b0 cap len : Nat} {sp : List Value} {a b lim : Int}, (hln : l.length = len) → (hll : len ≤ 1000000) → (hw : Go.Sort.SWO (ltc c)) → (hc5 : len < 50) → Go.Sort.Below (ltc c) a.toNat b.toNat l.toArray → 0 ≤ a → a ≤ b → b ≤ len → 0 ≤ lim → lim ≤ 100 → (b - a).toNat < m → FunM Tryz.prog 65 [is (.slice (some ⟨b0, 0, none⟩) len cap), int a, int b, int lim, clo Tryz.prog (fun x : Fct × Fct => [agg (rowFc x.1), agg (rowFc x.2)]) (fun x => int (c x))] (unit_) (cellsRes true b0 40 ((l.map rowFc).flatten ++ sp.map is)) (fun _ => relRes b0 40 rowFc (SortL c a b l) (sp.map is))
  | 0, _, _, _, _, _, _, _, _, _, _, _, _, _, _, _, _, _, _, _, h => absurd h (Nat.not_lt_zero _)
  | m + 1, _, _, _, _, _, _, _, _, _, hln, hll, hw, hc5, hB, h0, hab, hb, hl0, hl1, hm => w_spdq0F hln hll hw hc5 hB h0 hab hb hl0 hl1 (m + 1) hm (fun h1 h2 h3 h4 h5 h6 h7 h8 => w_spdqF m h1 hll hw hc5 h2 h3 h4 h5 h6 h7 (by omega))

set_option maxRecDepth 20000 in
theorem w_sortF {l : List Fct} {c : Fct × Fct → Int} {b0 cap len : Nat} {sp : List Value}  (hln : l.length = len) (hw : Go.Sort.SWO (ltc c)) (hc5 : len < 50) : FunM Tryz.prog 38 [is (.slice (some ⟨b0, 0, none⟩) len cap), clo Tryz.prog (fun x : Fct × Fct => [agg (rowFc x.1), agg (rowFc x.2)]) (fun x => int (c x))] (unit_) (cellsRes true b0 40 ((l.map rowFc).flatten ++ sp.map is)) (fun _ => relRes b0 40 rowFc (SortL c 0 len l) (sp.map is)) := by
 refine FunM.of Tryz.func38 rfl rfl (by exact Nat.le_of_ble_eq_true rfl) fun M0 w0 S rs M1 w1 => ?_
 have hw64 : IntKind.u64.wrap ((len : Nat) : Int) = len := IntWalk.u64_in _ ⟨by omega, by omega⟩
 refine Tr.seq (Tr.reg0 ?_)
 refine Ch.mv rfl rfl rfl rfl rfl ?_
 refine Ch.oo rfl rfl rfl (okb_len rfl Tryz.underlying29 (vl rfl)) ?_
 refine Ch.as rfl rfl rfl rfl rfl ?_
 refine Ch.nil (Fin.go (Tr.regT ?_))
 iterate 3 refine TO.mv rfl rfl rfl rfl rfl ?_
 first
  | refine TO.oo rfl rfl rfl (ok_convI rfl Tryz.underlying3 Tryz.underlying105 (vl rfl) (by unfold InI; omega)) ?_
  | refine TO.oo rfl rfl rfl (ok_conv rfl Tryz.underlying3 Tryz.underlying105 (vl rfl)) ?_
 refine TO.oo rfl rfl rfl (ok_call rfl (w_BLenx (by omega) (by omega)) ⟨ke rfl, trivial⟩) ?_
 refine TO.ex 11 rfl (fun k => TO.fact 11 rfl fun hk => ?_)
 obtain ⟨hk1, hk2, hk3⟩ := hk
 refine TO.mv rfl rfl rfl rfl rfl ?_
 refine TO.efc 0 rfl rfl (by decide) (ef_callc rfl rfl (by decide) rfl (w_spdqF (len + 1) (by omega) (by omega) hw (by omega) (.inl rfl) (by omega) (by omega) (by omega) (by omega) (by omega) (by omega)) ⟨ke rfl, ke rfl, ke rfl, ke rfl, ke rfl, trivial⟩) ?_
 refine TO.openL 0 rfl fun t1 hp1 => ?_
 have hpl1 := hp1.len
 refine TO.nil ?_
 refine Fin.closeL (SortL c 0 len l) 0 rfl (hp1) ?_
 exact Fin.retM0 rfl
set_option maxRecDepth 20000 in
theorem w_insNF {rows : List (List Pr)} {b : Int} (hb : b ≤ 1) : Fun Tryz.prog 105 [slice 8 rows, int 0, int b, any] (unit_) := by
 refine Fun.of Tryz.func105 rfl rfl (by exact Nat.le_of_ble_eq_true rfl) fun M0 w0 => ?_
 refine Tr.seq (Tr.reg0 ?_)
 refine Ch.mv rfl rfl rfl rfl rfl ?_
 first
  | (refine Ch.oo rfl rfl rfl (ok_add rfl (vl rfl) (vl rfl) ?hin) ?_; case hin => unfold InI; omega)
  | refine Ch.oo rfl rfl rfl (ok_int rfl (vl rfl) (vl rfl) rfl) ?_
 refine Ch.as rfl rfl rfl rfl rfl ?_
 refine Ch.nil (Fin.go (Tr.block ?_))
 refine Tr.loopw [(0, _), (1, _), (2, _), (3, _)] ⟨ke rfl, ke rfl, ke rfl, ke rfl, trivial⟩ (fun i : Int => [(8, int i)]) (fun i : Int => i = 1) (fun i : Int => 0) 1 (rfl) ⟨ke rfl, trivial⟩ ?_
 rintro i hi
 refine Tr.seq (Tr.seq (Tr.reg0 ?_))
 refine Ch.mv rfl rfl rfl rfl rfl ?_
 refine Ch.mv rfl rfl rfl rfl rfl ?_
 refine Ch.oo rfl rfl rfl (ok_int rfl (vl rfl) (vl rfl) rfl) ?_
 refine Ch.nil (Fin.go ?_)
 refine Tr.cn rfl (fun h1 q1 => ?_) (fun h1 q1 => ?_)
 ·
  have := h1
  exfalso; omega
 ·
  have := h1
  refine Tr.exit ?_
  refine Fin.then_exit ?_
  refine Fin.then_exit ?_
  refine Fin.block_here ?_
  exact Fin.ret0 rfl
set_option maxRecDepth 20000 in
theorem w_pdqNF {rows : List (List Pr)} {b : Int} (h0 : 0 ≤ b) (hb : b ≤ 1) : Fun Tryz.prog 65 [slice 8 rows, int 0, int b, any, any] (unit_) := by
 refine Fun.of Tryz.func65 rfl rfl (by exact Nat.le_of_ble_eq_true rfl) fun M0 w0 => ?_
 refine Tr.seq (Tr.reg0 ?_)
 refine Ch.as rfl rfl rfl rfl rfl ?_
 refine Ch.nil (Fin.go (Tr.seq (Tr.reg0 ?_)))
 refine Ch.as rfl rfl rfl rfl rfl ?_
 refine Ch.nil (Fin.go (Tr.block ?_))
 refine Tr.loopw [(0, _), (4, _)] ⟨ke rfl, ke rfl, trivial⟩ (fun (u : Unit) => [(1, int 0), (2, int b)]) (fun (u : Unit) => True) (fun (u : Unit) => 0) () (trivial) ⟨ke rfl, ke rfl, trivial⟩ ?_
 rintro u _
 refine Tr.block (Tr.seq (Tr.reg0 ?_))
 refine Ch.mv rfl rfl rfl rfl rfl ?_
 refine Ch.mv rfl rfl rfl rfl rfl ?_
 first
  | (refine Ch.oo rfl rfl rfl (ok_sub rfl (vl rfl) (vl rfl) ?hin) ?_; case hin => unfold InI; omega)
  | refine Ch.oo rfl rfl rfl (ok_int rfl (vl rfl) (vl rfl) rfl) ?_
 refine Ch.as rfl rfl rfl rfl rfl ?_
 refine Ch.nil (Fin.go (Tr.seq (Tr.seq (Tr.reg0 ?_))))
 refine Ch.mv rfl rfl rfl rfl rfl ?_
 refine Ch.oo rfl rfl rfl (ok_int rfl (vl rfl) (vl rfl) rfl) ?_
 refine Ch.nil (Fin.go ?_)
 refine Tr.cn rfl (fun h1 q1 => ?_) (fun h1 q1 => ?_)
 ·
  refine Tr.seq (Tr.reg0 ?_)
  iterate 4 refine Ch.mv rfl rfl rfl rfl rfl ?_
  refine Ch.oo rfl rfl rfl (ok_call rfl (w_insNF (by omega)) ⟨ke rfl, ke rfl, ke rfl, ke rfl, trivial⟩) ?_
  refine Ch.nil (Fin.go ?_)
  refine Tr.weak [] trivial ?_
  refine Tr.ret ?_
  refine Fin.then_ret ?_
  refine Fin.block_ret ?_
  refine Fin.then_ret ?_
  refine Fin.block_ret ?_
  exact Fin.ret0r rfl
 ·
  exfalso; omega
set_option maxRecDepth 20000 in
theorem w_SortNF {rows : List (List Pr)} (hs : rows.length ≤ 1) : Fun Tryz.prog 38 [slice 8 rows, any] (unit_) := by
 refine Fun.of Tryz.func38 rfl rfl (by exact Nat.le_of_ble_eq_true rfl) fun M0 w0 => ?_
 have hw : IntKind.u64.wrap ((rows.length : Nat) : Int) = rows.length := IntWalk.u64_in _ ⟨by omega, by omega⟩
 refine Tr.seq (Tr.reg0 ?_)
 refine Ch.mv rfl rfl rfl rfl rfl ?_
 first
  | refine Ch.oo rfl rfl rfl (ok_lenm rfl Tryz.underlying29 (vl rfl)) ?_
  | refine Ch.oo rfl rfl rfl (ok_len rfl Tryz.underlying29 (vl rfl)) ?_
 refine Ch.as rfl rfl rfl rfl rfl ?_
 refine Ch.nil (Fin.go (Tr.reg0 ?_))
 iterate 3 refine Ch.mv rfl rfl rfl rfl rfl ?_
 first
  | refine Ch.oo rfl rfl rfl (ok_convI rfl Tryz.underlying3 Tryz.underlying105 (vl rfl) (by unfold InI; omega)) ?_
  | refine Ch.oo rfl rfl rfl (ok_conv rfl Tryz.underlying3 Tryz.underlying105 (vl rfl)) ?_
 refine Ch.oo rfl rfl rfl (ok_call rfl (w_BLenx (by omega) (by omega)) ⟨ke rfl, trivial⟩) ?_
 refine Ch.mv rfl rfl rfl rfl rfl ?_
 refine Ch.oo rfl rfl rfl (ok_call rfl (w_pdqNF (rows := rows) (b := (rows.length : Int)) (by omega) (by omega)) ⟨ke rfl, ke rfl, ke rfl, ⟨_, rfl, le_any _⟩, ⟨_, rfl, le_any _⟩, trivial⟩) ?_
 refine Ch.nil ?_
 exact Fin.ret0 rfl
set_option maxRecDepth 20000 in
theorem w_sortOF {l : List Fct} {c : Fct × Fct → Int} {v : Value} (hw : Go.Sort.SWO (ltc c)) (hs : l.length < 50) : FunM Tryz.prog 38 [is v, clo Tryz.prog (fun x : Fct × Fct => [agg (rowFc x.1), agg (rowFc x.2)]) (fun x => int (c x))] unit_ (ownRes 40 8 (l.map rowFc) v) (fun _ => ownRel 40 8 rowFc (SortL c 0 l.length l) v) := by
  refine FunM.own_rel (fun h => ⟨?_, ?_⟩) (fun b cap sp => w_sortF rfl hw hs) (fun st h => h.len) ⟨_, Tryz.func38, rfl, rfl⟩
  · refine Fun.le (w_SortNF (rows := []) (by decide)) ?_ (Pr.le_refl _)
    rintro M w vs hv
    match vs, hv with
    | [a, b], ⟨h1, h2, h3⟩ => exact ⟨nil_slice _ M w a h1, trivial, h3⟩
  · subst h; exact ⟨Go.Sort.permIn_refl _ _ _, fun i j h1 h2 h3 => by simp at h3⟩

end Go.Proofs.YthmnoekgicggnaaGreat
namespace Go.Proofs.YthmnoekgicggnaaGreat
open Go Go.RowKit Cp

def cmpFc (a b : Fct) : Int := orL [Lib.compareBytes a.subj b.subj, cmpI a.kind b.kind, cmpI a.alg b.alg, cmpI a.bits b.bits, cmpI a.num b.num, Lib.compareBytes a.text b.text]
theorem cmpFc_cmp : Cmp cmpFc := by
  have := (cmp_bytes.on Fct.subj).cons ((cmp_int.on Fct.kind).cons ((cmp_int.on Fct.alg).cons ((cmp_int.on Fct.bits).cons ((cmp_int.on Fct.num).cons ((cmp_bytes.on Fct.text).cons (Cmp.nil (α := Fct)))))))
  exact this
theorem dec_len (l : List Fnd) (own : List Int) (t o : Int) : (decM l own t o).length ≤ own.length := by
  have key : ∀ (own : List Int) (m : List (Plc × Int)), (own.foldl (stepM l t o) m).length ≤ m.length + own.length := by
    intro own
    induction own with
    | nil => intro m; simp
    | cons i own ih =>
      intro m
      have h1 := ih (stepM l t o m i)
      have h2 : (stepM l t o m i).length ≤ m.length + 1 := by
        have hu : ∀ k, (updM m k i).length ≤ m.length + 1 := fun k => by
          unfold updM; split <;> simp
        unfold stepM
        split
        · omega
        · split
          · omega
          · split
            · exact hu _
            · split
              · omega
              · split
                · exact hu _
                · omega
      simp only [List.foldl_cons, List.length_cons]; omega
  have := key own []
  show (own.foldl (stepM l t o) []).length ≤ _
  simpa using this
theorem seen_perm {m : Nat} {seen : List Nat} (hn : seen.Nodup) (hlt : ∀ q ∈ seen, q < m) (hall : ∀ q, q < m → q ∈ seen) : seen.Perm (List.range m) := by
  rw [List.perm_ext_iff_of_nodup hn List.nodup_range]
  intro q; rw [List.mem_range]; exact ⟨hlt q, hall q⟩
theorem range_bind {α β : Type} (m : List α) (g : α → Option β) : ((List.range m.length).filterMap fun q => (m[q]?).bind g) = m.filterMap g := by
  have key : ∀ k, k ≤ m.length → ((List.range k).filterMap fun q => (m[q]?).bind g) = (m.take k).filterMap g := by
    intro k
    induction k with
    | zero => intro _; rfl
    | succ k ih =>
      intro hk
      obtain ⟨x, hx⟩ := at_ (l := m) (k := k) (by omega)
      rw [List.range_succ, List.filterMap_append, fm_take g hx, ih (by omega), fm_one, hx]; rfl
  rw [key m.length (Nat.le_refl _), List.take_length]
theorem outF_perm {l : List Fnd} {n : Int} {m : List (Plc × Int)} {seen : List Nat} (hn : seen.Nodup) (hlt : ∀ q ∈ seen, q < m.length) (hall : ∀ q, q < m.length → q ∈ seen) : (outF l n m seen).Perm (m.filterMap fun p => factOf l n p.2) := by
  rw [← range_bind]
  exact (seen_perm hn hlt hall).filterMap _

set_option maxRecDepth 20000 in
theorem w_aCompare {a b : Fct}  : Fun Tryz.prog 39 [agg (rowFc a), agg (rowFc b)] (int (cmpFc a b)) := by
 refine Fun.of Tryz.func39 rfl rfl (by exact Nat.le_of_ble_eq_true rfl) fun M0 w0 => ?_
 refine Tr.seq (Tr.reg0 ?_)
 refine Ch.oo rfl rfl rfl (ok_box rfl (VL.le (vl rfl) (agg_cellsP _))) ?_
 refine Ch.oo rfl rfl rfl (ok_box rfl (VL.le (vl rfl) (agg_cellsP _))) ?_
 refine Ch.as rfl rfl rfl rfl rfl ?_
 refine Ch.nil (Fin.go (Tr.seq ?_))
 refine Tr.reg1 mixed (by kernel_rfl) ?_
 refine Ch.oo rfl rfl rfl (ok_fieldAddr rfl fo40_1 (vl rfl) rfl) ?_
 refine Ch.oo rfl rfl rfl (ok_load1 rfl one9 (vl rfl)) ?_
 refine Ch.oo rfl rfl rfl (ok_fieldAddr rfl fo40_1 (vl rfl) rfl) ?_
 refine Ch.oo rfl rfl rfl (ok_load1 rfl one9 (vl rfl)) ?_
 refine Ch.oo rfl rfl rfl (ok_call rfl (w_cmpS) ⟨ke rfl, ke rfl, trivial⟩) ?_
 refine Ch.oo rfl rfl rfl (ok_fieldAddr rfl fo40_2 (vl rfl) rfl) ?_
 refine Ch.oo rfl rfl rfl (ok_load1 rfl one3 (vl rfl)) ?_
 refine Ch.oo rfl rfl rfl (ok_fieldAddr rfl fo40_2 (vl rfl) rfl) ?_
 refine Ch.oo rfl rfl rfl (ok_load1 rfl one3 (vl rfl)) ?_
 refine Ch.oo rfl rfl rfl (ok_call rfl (w_cmpI) ⟨ke rfl, ke rfl, trivial⟩) ?_
 refine Ch.oo rfl rfl rfl (ok_fieldAddr rfl fo40_3 (vl rfl) rfl) ?_
 refine Ch.oo rfl rfl rfl (ok_fieldAddr rfl fo38_0 (vl rfl) rfl) ?_
 refine Ch.oo rfl rfl rfl (ok_load1 rfl one3 (vl rfl)) ?_
 refine Ch.oo rfl rfl rfl (ok_fieldAddr rfl fo40_3 (vl rfl) rfl) ?_
 refine Ch.oo rfl rfl rfl (ok_fieldAddr rfl fo38_0 (vl rfl) rfl) ?_
 refine Ch.oo rfl rfl rfl (ok_load1 rfl one3 (vl rfl)) ?_
 refine Ch.oo rfl rfl rfl (ok_call rfl (w_cmpI) ⟨ke rfl, ke rfl, trivial⟩) ?_
 refine Ch.oo rfl rfl rfl (ok_fieldAddr rfl fo40_3 (vl rfl) rfl) ?_
 refine Ch.oo rfl rfl rfl (ok_fieldAddr rfl fo38_1 (vl rfl) rfl) ?_
 refine Ch.oo rfl rfl rfl (ok_load1 rfl one3 (vl rfl)) ?_
 refine Ch.oo rfl rfl rfl (ok_fieldAddr rfl fo40_3 (vl rfl) rfl) ?_
 refine Ch.oo rfl rfl rfl (ok_fieldAddr rfl fo38_1 (vl rfl) rfl) ?_
 refine Ch.oo rfl rfl rfl (ok_load1 rfl one3 (vl rfl)) ?_
 refine Ch.oo rfl rfl rfl (ok_call rfl (w_cmpI) ⟨ke rfl, ke rfl, trivial⟩) ?_
 refine Ch.oo rfl rfl rfl (ok_fieldAddr rfl fo40_4 (vl rfl) rfl) ?_
 refine Ch.oo rfl rfl rfl (ok_load1 rfl one3 (vl rfl)) ?_
 refine Ch.oo rfl rfl rfl (ok_fieldAddr rfl fo40_4 (vl rfl) rfl) ?_
 refine Ch.oo rfl rfl rfl (ok_load1 rfl one3 (vl rfl)) ?_
 refine Ch.oo rfl rfl rfl (ok_call rfl (w_cmpI) ⟨ke rfl, ke rfl, trivial⟩) ?_
 refine Ch.oo rfl rfl rfl (ok_fieldAddr rfl fo40_5 (vl rfl) rfl) ?_
 refine Ch.oo rfl rfl rfl (ok_load1 rfl one9 (vl rfl)) ?_
 refine Ch.oo rfl rfl rfl (ok_fieldAddr rfl fo40_5 (vl rfl) rfl) ?_
 refine Ch.oo rfl rfl rfl (ok_load1 rfl one9 (vl rfl)) ?_
 refine Ch.oo rfl rfl rfl (ok_call rfl (w_cmpS) ⟨ke rfl, ke rfl, trivial⟩) ?_
 refine Ch.oo rfl rfl rfl (ok_buildSlice (xs := [.tmp 9, .tmp 14, .tmp 21, .tmp 28, .tmp 33, .tmp 38]) (rows := [[_], [_], [_], [_], [_], [_]]) rfl rfl Tryz.underlying22 sz3 z3 rfl (by decide) ⟨⟨(by exact rfl), (VL.le (vl rfl) (one_cellsP _))⟩, ⟨⟨(by exact rfl), (VL.le (vl rfl) (one_cellsP _))⟩, ⟨⟨(by exact rfl), (VL.le (vl rfl) (one_cellsP _))⟩, ⟨⟨(by exact rfl), (VL.le (vl rfl) (one_cellsP _))⟩, ⟨⟨(by exact rfl), (VL.le (vl rfl) (one_cellsP _))⟩, ⟨⟨(by exact rfl), (VL.le (vl rfl) (one_cellsP _))⟩, trivial⟩⟩⟩⟩⟩⟩ (by decide)) ?_
 refine Ch.oo rfl rfl rfl (ok_call rfl (w_orI (l := [Lib.compareBytes a.subj b.subj, cmpI a.kind b.kind, cmpI a.alg b.alg, cmpI a.bits b.bits, cmpI a.num b.num, Lib.compareBytes a.text b.text])) ⟨⟨_, rfl, full_le _ _⟩, trivial⟩) ?_
 refine Ch.as rfl rfl rfl rfl rfl ?_
 refine Ch.nil (Fin.go ?_)
 refine Tr.w1 4 rfl ?_
 refine Tr.ret ?_
 refine Fin.ret1 rfl (OutW.bse _ _) rfl ?_
 · exact int_eq (orL_orF _)
theorem e_aCompare : Entry Tryz.prog 39 := ⟨_, Tryz.func39, rfl, rfl⟩
set_option maxRecDepth 20000 in
theorem w_FactsN {l : List Fnd} {n t o : Int} {own : List Int} (hN : NormP l) (hf : ∀ f ∈ l, f.fits) (ht : 0 ≤ t ∧ t ≤ 40000) (ho : 0 ≤ o ∧ o ≤ 4000) (ha : Asc own) (hi : InR own l.length) (hs : own.length < 50) : Fun Tryz.prog 12 [fnds l, entP n own, int t, int o] (ex fun st : List Fct => fact (st.Perm ((decM l own t o).filterMap fun p => factOf l n p.2) ∧ SortedC cmpFc st) (tup [fcts st, int 0])) := by
 refine Fun.of Tryz.func12 rfl rfl (by exact Nat.le_of_ble_eq_true rfl) fun M0 w0 => ?_
 have hml : (decM l own t o).length < 50 := Nat.lt_of_le_of_lt (dec_len ..) hs
 haveI := Classical.propDecidable (NormP l)
 obtain ⟨ht1, ht2⟩ := ht
 obtain ⟨ho1, ho2⟩ := ho
 have hNl := hN.len
 refine Tr.seq (Tr.reg0 ?_)
 refine Ch.oo rfl rfl rfl (ok_box rfl (VL.le (vl rfl) (agg_cellsP _))) ?_
 refine Ch.as rfl rfl rfl rfl rfl ?_
 refine Ch.as rfl rfl rfl rfl rfl ?_
 refine Ch.nil (Fin.go (Tr.seq (Tr.reg0 ?_)))
 refine Ch.mv rfl rfl rfl rfl rfl ?_
 refine Ch.oo rfl rfl rfl (ok_loadA rfl agg35 sz35 (vl rfl) rfl rfl) ?_
 refine Ch.oo rfl rfl rfl (ok_call rfl (w_indices48 (by assumption) (by assumption)) ⟨ke rfl, ke rfl, trivial⟩) ?_
 refine Ch.mv rfl rfl rfl rfl rfl ?_
 refine Ch.oo rfl rfl rfl (ok_extract rfl (vl rfl) rfl) ?_
 refine Ch.oo rfl rfl rfl (ok_extract rfl (vl rfl) rfl) ?_
 refine Ch.as rfl rfl rfl rfl rfl ?_
 refine Ch.as rfl rfl rfl rfl rfl ?_
 refine Ch.nil (Fin.go (Tr.seq (Tr.block (Tr.seq (Tr.reg0 ?_)))))
 refine Ch.mv rfl rfl rfl rfl rfl ?_
 refine Ch.oo rfl rfl rfl (ok_call rfl (w_FNormal (by assumption)) ⟨ke rfl, trivial⟩) ?_
 refine Ch.oo rfl rfl rfl (ok_not rfl (vl rfl)) ?_
 refine Ch.as rfl rfl rfl rfl rfl ?_
 refine Ch.nil (Fin.go ?_)
 refine Tr.w7 0 2 3 5 10 11 28 rfl rfl rfl rfl rfl rfl rfl ?_
 refine Tr.cn rfl (fun h1 q1 => ?_) (fun h1 q1 => ?_)
 ·
  exfalso; simp_all
 ·
  refine Tr.seq (Tr.reg0 ?_)
  refine Ch.mv rfl rfl rfl rfl rfl ?_
  refine Ch.oo rfl rfl rfl (ok_int rfl (vl rfl) (vl rfl) rfl) ?_
  refine Ch.mv rfl rfl rfl rfl rfl ?_
  refine Ch.cs 35 rfl (fun h2 q2 => ?_) (fun h2 q2 => ?_)
  ·
   exfalso; omega
  ·
   refine Ch.ym h2 rfl rfl rfl rfl rfl rfl rfl ?_
   refine Ch.y h2 rfl rfl rfl rfl rfl (ok_int rfl (vl rfl) (vl rfl) rfl) ?_
   refine Ch.oo rfl rfl rfl (ok_pick_f rfl (vl rfl) h2 (vl rfl)) ?_
   refine Ch.mv rfl rfl rfl rfl rfl ?_
   refine Ch.cs 39 rfl (fun h3 q3 => ?_) (fun h3 q3 => ?_)
   ·
    exfalso; omega
   ·
    refine Ch.ym h3 rfl rfl rfl rfl rfl rfl rfl ?_
    refine Ch.y h3 rfl rfl rfl rfl rfl (ok_int rfl (vl rfl) (vl rfl) rfl) ?_
    refine Ch.oo rfl rfl rfl (ok_pick_f rfl (vl rfl) h3 (vl rfl)) ?_
    refine Ch.mv rfl rfl rfl rfl rfl ?_
    refine Ch.cs 43 rfl (fun h4 q4 => ?_) (fun h4 q4 => ?_)
    ·
     exfalso; omega
    ·
     refine Ch.ym h4 rfl rfl rfl rfl rfl rfl rfl ?_
     refine Ch.y h4 rfl rfl rfl rfl rfl (ok_int rfl (vl rfl) (vl rfl) rfl) ?_
     refine Ch.oo rfl rfl rfl (ok_pick_f rfl (vl rfl) h4 (vl rfl)) ?_
     refine Ch.as rfl rfl rfl rfl rfl ?_
     refine Ch.nil (Fin.go ?_)
     refine Tr.w7 0 2 3 5 10 11 32 rfl rfl rfl rfl rfl rfl rfl ?_
     refine Tr.cn rfl (fun h5 q5 => ?_) (fun h5 q5 => ?_)
     ·
      exfalso; omega
     ·
      refine Tr.seq (Tr.reg0 ?_)
      refine Ch.mv rfl rfl rfl rfl rfl ?_
      refine Ch.oo rfl rfl rfl (ok_not rfl (vl rfl)) ?_
      refine Ch.as rfl rfl rfl rfl rfl ?_
      refine Ch.nil (Fin.go ?_)
      refine Tr.cn rfl (fun h6 q6 => ?_) (fun h6 q6 => ?_)
      ·
       exfalso; simp_all
      ·
       refine Tr.skip (Fin.block (Fin.go (Tr.seq (Tr.regT ?_))))
       refine TO.mkmap encPl rfl rfl (by decide) rfl (fun b1 => ?_)
       refine TO.as rfl rfl rfl rfl rfl ?_
       refine TO.nil (Fin.go (Tr.seq (Tr.seq (Tr.reg0 ?_))))
       refine Ch.mv rfl rfl rfl rfl rfl ?_
       first
        | refine Ch.oo rfl rfl rfl (ok_lenm rfl Tryz.underlying22 (vl rfl)) ?_
        | refine Ch.oo rfl rfl rfl (ok_len rfl Tryz.underlying22 (vl rfl)) ?_
       refine Ch.mv rfl rfl rfl rfl rfl ?_
       refine Ch.nil (Fin.go ?_)
       refine Tr.w8 0 2 3 5 12 51 52 53 rfl rfl rfl rfl rfl rfl rfl rfl ?_
       refine Tr.block ?_
       refine Tr.loopR [(0, _), (2, _), (3, _), (5, _), (12, _), (51, _), (52, _)] ⟨ke rfl, ke rfl, ke rfl, ke rfl, ke rfl, ke rfl, ke rfl, trivial⟩ (fun k : Nat => [(53, int ((k : Nat) : Int))]) (fun k : Nat => Hp M0 w0 noS ([mapR encPl b1 (decM l (own.take k) t o)])) (fun k : Nat => k ≤ (own).length) (fun k : Nat => (own).length - k) 0 (Nat.zero_le _) ⟨ke rfl, trivial⟩ (fun _ _ h => h) ?_
       rintro k hle_k
       refine Tr.seq (Tr.reg0 ?_)
       refine Ch.oo rfl rfl rfl (ok_int rfl (vl rfl) (vl rfl) rfl) ?_
       refine Ch.nil (Fin.go (Tr.seq ?_))
       refine Tr.cn rfl (fun h7 q7 => ?_) (fun h7 q7 => ?_)
       ·
        have hk_k : k < (own).length := lt_of_dec h7
        obtain ⟨i, hx_k⟩ := at_ hk_k
        have hii := hi i (List.mem_of_getElem? hx_k)
        obtain ⟨f, hf0⟩ := at_ (l := l) (k := i.toNat) (by omega)
        have hstep := dec_take (l := l) (t := t) (o := o) hx_k
        refine Tr.skip (Fin.go (Tr.seq (Tr.block (Tr.seq (Tr.reg0 ?_)))))
        refine Ch.oo rfl rfl rfl (ok_indexAddr rfl Tryz.underlying22 sz3 (vl rfl) (vl rfl) (by omega) (row_at hx_k)) ?_
        refine Ch.oo rfl rfl rfl (ok_load1 rfl one3 (vl rfl)) ?_
        refine Ch.as rfl rfl rfl rfl rfl ?_
        refine Ch.nil (Fin.go (Tr.seq (Tr.regT ?_)))
        refine TO.mv rfl rfl rfl rfl rfl ?_
        refine TO.mv rfl rfl rfl rfl rfl ?_
        refine TO.oo rfl rfl rfl (ok_indexAddr rfl Tryz.underlying27 sz42 (vl rfl) (vl rfl) (by omega) (row_atI hf0)) ?_
        refine TO.oo rfl rfl rfl (ok_loadA rfl agg42 sz42 (vl rfl) rfl rfl) ?_
        refine TO.alloc rfl rfl (by decide) rfl z42 zo42 (fun b2 => ?_)
        refine TO.store_all 0 rfl rfl rfl (vl rfl) (VL.le (vl rfl) (agg_cellsP _)) rfl sz42 rfl rfl ?_
        refine TO.freeze 0 15 rfl rfl ?_
        refine TO.nil (Fin.go ?_)
        refine Tr.w10 0 2 3 5 12 14 15 51 52 53 rfl rfl rfl rfl rfl rfl rfl rfl rfl rfl ?_
        refine Tr.seq (Tr.seq (Tr.reg0 ?_))
        refine Ch.oo rfl rfl rfl (ok_fieldAddr rfl fo42_3 (vl rfl) rfl) ?_
        refine Ch.oo rfl rfl rfl (ok_load1 rfl one3 (vl rfl)) ?_
        refine Ch.mv rfl rfl rfl rfl rfl ?_
        refine Ch.oo rfl rfl rfl (ok_int rfl (vl rfl) (vl rfl) rfl) ?_
        refine Ch.mv rfl rfl rfl rfl rfl ?_
        refine Ch.cs 65 rfl (fun h8 q8 => ?_) (fun h8 q8 => ?_)
        ·
         iterate 6 refine Ch.nf h8 rfl rfl rfl rfl rfl ?_
         refine Ch.oo rfl rfl rfl (ok_pick_t rfl (vl rfl) h8 (vl rfl)) ?_
         refine Ch.nil (Fin.go ?_)
         refine Tr.w11 0 2 3 5 12 14 15 51 52 53 72 rfl rfl rfl rfl rfl rfl rfl rfl rfl rfl rfl ?_
         refine Tr.cond rfl (fun _ => ?_) (fun h => nomatch h)
         refine Tr.exit ?_
         refine Fin.then_exit ?_
         refine Fin.block_here ?_
         refine Fin.go (Tr.reg0 ?_)
         first
          | (refine Ch.oo rfl rfl rfl (ok_add rfl (vl rfl) (vl rfl) ?hin) ?_; case hin => unfold InI; omega)
          | refine Ch.oo rfl rfl rfl (ok_int rfl (vl rfl) (vl rfl) rfl) ?_
         refine Ch.mv rfl rfl rfl rfl rfl ?_
         refine Ch.nil ?_
         first
          | rw [step_out hf0 (by omega)] at hstep
          | rw [step_new hf0 (by omega) hsome0] at hstep
          | rw [step_old hf0 (by omega) hsome hg, if_pos (by unfold better; omega)] at hstep
          | rw [step_old hf0 (by omega) hsome hg, if_neg (by unfold better; omega)] at hstep
         exact Fin.fam (k + 1) ⟨hk_k, by omega⟩ ⟨⟨_, rfl, int_succ k⟩, ke rfl, ke rfl, ke rfl, ke rfl, ke rfl, ke rfl, ke rfl, trivial⟩ (fun _ _ h => by rw [hstep]; exact h)
        ·
         refine Ch.y h8 rfl rfl rfl rfl rfl (ok_fieldAddr rfl fo42_3 (vl rfl) rfl) ?_
         refine Ch.y h8 rfl rfl rfl rfl rfl (ok_load1 rfl one3 (vl rfl)) ?_
         refine Ch.ym h8 rfl rfl rfl rfl rfl rfl rfl ?_
         refine Ch.ym h8 rfl rfl rfl rfl rfl rfl rfl ?_
         first
          | (refine Ch.y h8 rfl rfl rfl rfl rfl (ok_sub rfl (vl rfl) (vl rfl) ?hin) ?_; case hin => unfold InI; omega)
          | refine Ch.y h8 rfl rfl rfl rfl rfl (ok_int rfl (vl rfl) (vl rfl) rfl) ?_
         refine Ch.y h8 rfl rfl rfl rfl rfl (ok_int rfl (vl rfl) (vl rfl) rfl) ?_
         refine Ch.oo rfl rfl rfl (ok_pick_f rfl (vl rfl) h8 (vl rfl)) ?_
         refine Ch.nil (Fin.go ?_)
         refine Tr.w11 0 2 3 5 12 14 15 51 52 53 72 rfl rfl rfl rfl rfl rfl rfl rfl rfl rfl rfl ?_
         refine Tr.cn rfl (fun h9 q9 => ?_) (fun h9 q9 => ?_)
         ·
          refine Tr.exit ?_
          refine Fin.then_exit ?_
          refine Fin.block_here ?_
          refine Fin.go (Tr.reg0 ?_)
          first
           | (refine Ch.oo rfl rfl rfl (ok_add rfl (vl rfl) (vl rfl) ?hin) ?_; case hin => unfold InI; omega)
           | refine Ch.oo rfl rfl rfl (ok_int rfl (vl rfl) (vl rfl) rfl) ?_
          refine Ch.mv rfl rfl rfl rfl rfl ?_
          refine Ch.nil ?_
          first
           | rw [step_out hf0 (by omega)] at hstep
           | rw [step_new hf0 (by omega) hsome0] at hstep
           | rw [step_old hf0 (by omega) hsome hg, if_pos (by unfold better; omega)] at hstep
           | rw [step_old hf0 (by omega) hsome hg, if_neg (by unfold better; omega)] at hstep
          exact Fin.fam (k + 1) ⟨hk_k, by omega⟩ ⟨⟨_, rfl, int_succ k⟩, ke rfl, ke rfl, ke rfl, ke rfl, ke rfl, ke rfl, ke rfl, trivial⟩ (fun _ _ h => by rw [hstep]; exact h)
         ·
          refine Tr.skip (Fin.go (Tr.seq (Tr.regT ?_)))
          refine TO.mv rfl rfl rfl rfl rfl ?_
          refine TO.oo rfl rfl rfl (ok_loadA rfl agg42 sz42 (vl rfl) rfl rfl) ?_
          refine TO.oo rfl rfl rfl (ok_call rfl (w_placeOf) ⟨ke rfl, trivial⟩) ?_
          refine TO.rd 0 rfl rfl rfl (by decide) (rd_lookup (plcOf f) mapT_place rfl (vl rfl) (vl rfl) (fun _ _ _ h => agg_is h)) ?_
          refine TO.mv rfl rfl rfl rfl rfl ?_
          refine TO.oo rfl rfl rfl (ok_extract rfl (vl rfl) rfl) ?_
          refine TO.oo rfl rfl rfl (ok_extract rfl (vl rfl) rfl) ?_
          refine TO.as rfl rfl rfl rfl rfl ?_
          refine TO.as rfl rfl rfl rfl rfl ?_
          refine TO.nil (Fin.go ?_)
          refine Tr.w12 0 2 3 5 12 14 15 16 17 51 52 53 rfl rfl rfl rfl rfl rfl rfl rfl rfl rfl rfl rfl ?_
          refine Tr.seq ?_
          refine Tr.reg1 mixed (by kernel_rfl) ?_
          refine Ch.mv rfl rfl rfl rfl rfl ?_
          refine Ch.oo rfl rfl rfl (ok_not rfl (vl rfl)) ?_
          refine Ch.mv rfl rfl rfl rfl rfl ?_
          refine Ch.cs 82 rfl (fun h10 q10 => ?_) (fun h10 q10 => ?_)
          ·
           have hsome0 : (Cp.look (decM l (own.take k) t o) (plcOf f)).isSome = false := by simpa using h10
           iterate 8 refine Ch.nf h10 rfl rfl rfl rfl rfl ?_
           refine Ch.oo rfl rfl rfl (ok_pick_t rfl (vl rfl) h10 (vl rfl)) ?_
           refine Ch.mv rfl rfl rfl rfl rfl ?_
           iterate 9 refine Ch.nd rfl rfl rfl rfl rfl rfl ?_
           iterate 8 refine Ch.u rfl rfl rfl rfl rfl ?_
           refine Ch.nd rfl rfl rfl rfl rfl rfl ?_
           refine Ch.oo rfl rfl rfl (ok_pick_t rfl (vl rfl) rfl (vl rfl)) ?_
           refine Ch.nil (Fin.go ?_)
           refine Tr.w11 0 2 3 5 12 14 15 51 52 53 111 rfl rfl rfl rfl rfl rfl rfl rfl rfl rfl rfl ?_
           refine Tr.cond rfl (fun _ => ?_) (fun h => nomatch h)
           refine Tr.regT ?_
           refine TO.mv rfl rfl rfl rfl rfl ?_
           refine TO.oo rfl rfl rfl (ok_loadA rfl agg42 sz42 (vl rfl) rfl rfl) ?_
           refine TO.oo rfl rfl rfl (ok_call rfl (w_placeOf) ⟨ke rfl, trivial⟩) ?_
           refine TO.mv rfl rfl rfl rfl rfl ?_
           refine TO.ef0 0 rfl rfl (ef_mapupd (plcOf f) mapT_place rfl rfl rfl (vl rfl) (vl rfl) (fun _ _ _ h => agg_is h) (vl rfl)) ?_
           refine TO.nil (Fin.block (Fin.go ?_))
           refine Tr.w8 0 2 3 5 12 51 52 53 rfl rfl rfl rfl rfl rfl rfl rfl ?_
           refine Tr.reg0 ?_
           first
            | (refine Ch.oo rfl rfl rfl (ok_add rfl (vl rfl) (vl rfl) ?hin) ?_; case hin => unfold InI; omega)
            | refine Ch.oo rfl rfl rfl (ok_int rfl (vl rfl) (vl rfl) rfl) ?_
           refine Ch.mv rfl rfl rfl rfl rfl ?_
           refine Ch.nil ?_
           first
            | rw [step_out hf0 (by omega)] at hstep
            | rw [step_new hf0 (by omega) hsome0] at hstep
            | rw [step_old hf0 (by omega) hsome hg, if_pos (by unfold better; omega)] at hstep
            | rw [step_old hf0 (by omega) hsome hg, if_neg (by unfold better; omega)] at hstep
           exact Fin.fam (k + 1) ⟨hk_k, by omega⟩ ⟨⟨_, rfl, int_succ k⟩, ke rfl, ke rfl, ke rfl, ke rfl, ke rfl, ke rfl, ke rfl, trivial⟩ (fun _ _ h => by rw [hstep]; exact h)
          ·
           have hsome : (Cp.look (decM l (own.take k) t o) (plcOf f)).isSome = true := by simpa using h10
           have hjj := look_in (dec_in' (t := t) (o := o) k hi) hsome
           obtain ⟨g, hg⟩ := at_ (l := l) (k := ((Cp.look (decM l (own.take k) t o) (plcOf f)).getD 0).toNat) (by omega)
           refine Ch.y h10 rfl rfl rfl rfl rfl (ok_fieldAddr rfl fo42_3 (vl rfl) rfl) ?_
           refine Ch.y h10 rfl rfl rfl rfl rfl (ok_load1 rfl one3 (vl rfl)) ?_
           refine Ch.ym h10 rfl rfl rfl rfl rfl rfl rfl ?_
           refine Ch.ym h10 rfl rfl rfl rfl rfl rfl rfl ?_
           refine Ch.y h10 rfl rfl rfl rfl rfl (ok_indexAddr rfl Tryz.underlying27 sz42 (vl rfl) (vl rfl) (by omega) (row_atI hg)) ?_
           refine Ch.y h10 rfl rfl rfl rfl rfl (ok_fieldAddr rfl fo42_3 (vl rfl) rfl) ?_
           refine Ch.y h10 rfl rfl rfl rfl rfl (ok_load1 rfl one3 (vl rfl)) ?_
           refine Ch.y h10 rfl rfl rfl rfl rfl (ok_int rfl (vl rfl) (vl rfl) rfl) ?_
           refine Ch.oo rfl rfl rfl (ok_pick_f rfl (vl rfl) h10 (vl rfl)) ?_
           refine Ch.mv rfl rfl rfl rfl rfl ?_
           refine Ch.cs 92 rfl (fun h11 q11 => ?_) (fun h11 q11 => ?_)
           ·
            iterate 9 refine Ch.nf h11 rfl rfl rfl rfl rfl ?_
            iterate 8 refine Ch.u rfl rfl rfl rfl rfl ?_
            refine Ch.nf h11 rfl rfl rfl rfl rfl ?_
            refine Ch.oo rfl rfl rfl (ok_pick_t rfl (vl rfl) h11 (vl rfl)) ?_
            refine Ch.nil (Fin.go ?_)
            refine Tr.w11 0 2 3 5 12 14 15 51 52 53 111 rfl rfl rfl rfl rfl rfl rfl rfl rfl rfl rfl ?_
            refine Tr.cond rfl (fun _ => ?_) (fun h => nomatch h)
            refine Tr.regT ?_
            refine TO.mv rfl rfl rfl rfl rfl ?_
            refine TO.oo rfl rfl rfl (ok_loadA rfl agg42 sz42 (vl rfl) rfl rfl) ?_
            refine TO.oo rfl rfl rfl (ok_call rfl (w_placeOf) ⟨ke rfl, trivial⟩) ?_
            refine TO.mv rfl rfl rfl rfl rfl ?_
            refine TO.ef0 0 rfl rfl (ef_mapupd (plcOf f) mapT_place rfl rfl rfl (vl rfl) (vl rfl) (fun _ _ _ h => agg_is h) (vl rfl)) ?_
            refine TO.nil (Fin.block (Fin.go ?_))
            refine Tr.w8 0 2 3 5 12 51 52 53 rfl rfl rfl rfl rfl rfl rfl rfl ?_
            refine Tr.reg0 ?_
            first
             | (refine Ch.oo rfl rfl rfl (ok_add rfl (vl rfl) (vl rfl) ?hin) ?_; case hin => unfold InI; omega)
             | refine Ch.oo rfl rfl rfl (ok_int rfl (vl rfl) (vl rfl) rfl) ?_
            refine Ch.mv rfl rfl rfl rfl rfl ?_
            refine Ch.nil ?_
            first
             | rw [step_out hf0 (by omega)] at hstep
             | rw [step_new hf0 (by omega) hsome0] at hstep
             | rw [step_old hf0 (by omega) hsome hg, if_pos (by unfold better; omega)] at hstep
             | rw [step_old hf0 (by omega) hsome hg, if_neg (by unfold better; omega)] at hstep
            exact Fin.fam (k + 1) ⟨hk_k, by omega⟩ ⟨⟨_, rfl, int_succ k⟩, ke rfl, ke rfl, ke rfl, ke rfl, ke rfl, ke rfl, ke rfl, trivial⟩ (fun _ _ h => by rw [hstep]; exact h)
           ·
            refine Ch.y h11 rfl rfl rfl rfl rfl (ok_fieldAddr rfl fo42_3 (vl rfl) rfl) ?_
            refine Ch.y h11 rfl rfl rfl rfl rfl (ok_load1 rfl one3 (vl rfl)) ?_
            refine Ch.ym h11 rfl rfl rfl rfl rfl rfl rfl ?_
            refine Ch.ym h11 rfl rfl rfl rfl rfl rfl rfl ?_
            refine Ch.y h11 rfl rfl rfl rfl rfl (ok_indexAddr rfl Tryz.underlying27 sz42 (vl rfl) (vl rfl) (by omega) (row_atI hg)) ?_
            refine Ch.y h11 rfl rfl rfl rfl rfl (ok_fieldAddr rfl fo42_3 (vl rfl) rfl) ?_
            refine Ch.y h11 rfl rfl rfl rfl rfl (ok_load1 rfl one3 (vl rfl)) ?_
            refine Ch.y h11 rfl rfl rfl rfl rfl (ok_int rfl (vl rfl) (vl rfl) rfl) ?_
            refine Ch.ym h11 rfl rfl rfl rfl rfl rfl rfl ?_
            refine Ch.cs 101 rfl (fun h12 q12 => ?_) (fun h12 q12 => ?_)
            ·
             refine Ch.y h12 rfl rfl rfl rfl rfl (ok_fieldAddr rfl fo42_4 (vl rfl) rfl) ?_
             refine Ch.y h12 rfl rfl rfl rfl rfl (ok_load1 rfl one3 (vl rfl)) ?_
             refine Ch.ym h12 rfl rfl rfl rfl rfl rfl rfl ?_
             refine Ch.ym h12 rfl rfl rfl rfl rfl rfl rfl ?_
             refine Ch.y h12 rfl rfl rfl rfl rfl (ok_indexAddr rfl Tryz.underlying27 sz42 (vl rfl) (vl rfl) (by omega) (row_atI hg)) ?_
             refine Ch.y h12 rfl rfl rfl rfl rfl (ok_fieldAddr rfl fo42_4 (vl rfl) rfl) ?_
             refine Ch.y h12 rfl rfl rfl rfl rfl (ok_load1 rfl one3 (vl rfl)) ?_
             refine Ch.y h12 rfl rfl rfl rfl rfl (ok_int rfl (vl rfl) (vl rfl) rfl) ?_
             refine Ch.y h11 rfl rfl rfl rfl rfl (ok_pick_t rfl (vl rfl) h12 (vl rfl)) ?_
             refine Ch.oo rfl rfl rfl (ok_pick_f rfl (vl rfl) h11 (vl rfl)) ?_
             refine Ch.nil (Fin.go ?_)
             refine Tr.w11 0 2 3 5 12 14 15 51 52 53 111 rfl rfl rfl rfl rfl rfl rfl rfl rfl rfl rfl ?_
             refine Tr.cn rfl (fun h13 q13 => ?_) (fun h13 q13 => ?_)
             ·
              refine Tr.regT ?_
              refine TO.mv rfl rfl rfl rfl rfl ?_
              refine TO.oo rfl rfl rfl (ok_loadA rfl agg42 sz42 (vl rfl) rfl rfl) ?_
              refine TO.oo rfl rfl rfl (ok_call rfl (w_placeOf) ⟨ke rfl, trivial⟩) ?_
              refine TO.mv rfl rfl rfl rfl rfl ?_
              refine TO.ef0 0 rfl rfl (ef_mapupd (plcOf f) mapT_place rfl rfl rfl (vl rfl) (vl rfl) (fun _ _ _ h => agg_is h) (vl rfl)) ?_
              refine TO.nil (Fin.block (Fin.go ?_))
              refine Tr.w8 0 2 3 5 12 51 52 53 rfl rfl rfl rfl rfl rfl rfl rfl ?_
              refine Tr.reg0 ?_
              first
               | (refine Ch.oo rfl rfl rfl (ok_add rfl (vl rfl) (vl rfl) ?hin) ?_; case hin => unfold InI; omega)
               | refine Ch.oo rfl rfl rfl (ok_int rfl (vl rfl) (vl rfl) rfl) ?_
              refine Ch.mv rfl rfl rfl rfl rfl ?_
              refine Ch.nil ?_
              first
               | rw [step_out hf0 (by omega)] at hstep
               | rw [step_new hf0 (by omega) hsome0] at hstep
               | rw [step_old hf0 (by omega) hsome hg, if_pos (by unfold better; omega)] at hstep
               | rw [step_old hf0 (by omega) hsome hg, if_neg (by unfold better; omega)] at hstep
              exact Fin.fam (k + 1) ⟨hk_k, by omega⟩ ⟨⟨_, rfl, int_succ k⟩, ke rfl, ke rfl, ke rfl, ke rfl, ke rfl, ke rfl, ke rfl, trivial⟩ (fun _ _ h => by rw [hstep]; exact h)
             ·
              refine Tr.skip (Fin.block (Fin.go (Tr.reg0 ?_)))
              first
               | (refine Ch.oo rfl rfl rfl (ok_add rfl (vl rfl) (vl rfl) ?hin) ?_; case hin => unfold InI; omega)
               | refine Ch.oo rfl rfl rfl (ok_int rfl (vl rfl) (vl rfl) rfl) ?_
              refine Ch.mv rfl rfl rfl rfl rfl ?_
              refine Ch.nil ?_
              first
               | rw [step_out hf0 (by omega)] at hstep
               | rw [step_new hf0 (by omega) hsome0] at hstep
               | rw [step_old hf0 (by omega) hsome hg, if_pos (by unfold better; omega)] at hstep
               | rw [step_old hf0 (by omega) hsome hg, if_neg (by unfold better; omega)] at hstep
              exact Fin.fam (k + 1) ⟨hk_k, by omega⟩ ⟨⟨_, rfl, int_succ k⟩, ke rfl, ke rfl, ke rfl, ke rfl, ke rfl, ke rfl, ke rfl, trivial⟩ (fun _ _ h => by rw [hstep]; exact h)
            ·
             iterate 8 refine Ch.nt h12 rfl rfl rfl rfl rfl ?_
             refine Ch.y h11 rfl rfl rfl rfl rfl (ok_pick_f rfl (vl rfl) h12 (vl rfl)) ?_
             refine Ch.oo rfl rfl rfl (ok_pick_f rfl (vl rfl) h11 (vl rfl)) ?_
             refine Ch.nil (Fin.go ?_)
             refine Tr.w11 0 2 3 5 12 14 15 51 52 53 111 rfl rfl rfl rfl rfl rfl rfl rfl rfl rfl rfl ?_
             refine Tr.cond rfl (fun h => nomatch h) (fun _ => ?_)
             refine Tr.skip (Fin.block (Fin.go (Tr.reg0 ?_)))
             first
              | (refine Ch.oo rfl rfl rfl (ok_add rfl (vl rfl) (vl rfl) ?hin) ?_; case hin => unfold InI; omega)
              | refine Ch.oo rfl rfl rfl (ok_int rfl (vl rfl) (vl rfl) rfl) ?_
             refine Ch.mv rfl rfl rfl rfl rfl ?_
             refine Ch.nil ?_
             first
              | rw [step_out hf0 (by omega)] at hstep
              | rw [step_new hf0 (by omega) hsome0] at hstep
              | rw [step_old hf0 (by omega) hsome hg, if_pos (by unfold better; omega)] at hstep
              | rw [step_old hf0 (by omega) hsome hg, if_neg (by unfold better; omega)] at hstep
             exact Fin.fam (k + 1) ⟨hk_k, by omega⟩ ⟨⟨_, rfl, int_succ k⟩, ke rfl, ke rfl, ke rfl, ke rfl, ke rfl, ke rfl, ke rfl, trivial⟩ (fun _ _ h => by rw [hstep]; exact h)
       ·
        have he_k : k = (own).length := by have := ge_of_dec h7; omega
        subst he_k
        rw [List.take_length]
        refine Tr.exit ?_
        refine Fin.then_exit ?_
        refine Fin.then_exit ?_
        refine Fin.block_here ?_
        refine Fin.go (Tr.seq (Tr.reg0 ?_))
        refine Ch.as rfl rfl rfl rfl rfl ?_
        refine Ch.nil (Fin.go (Tr.seq (Tr.seq (Tr.regT ?_))))
        refine TO.mv rfl rfl rfl rfl rfl ?_
        refine TO.range mapT_place rfl rfl (by decide) rfl (vl rfl) (show _ = some (mapR encPl _ _) from rfl : _[0]? = _) (fun b3 => ?_)
        refine TO.nil (Fin.go (Tr.block ?_))
        refine Tr.addown 40 8 ?_
        refine Tr.loopD1V1 [(0, _), (5, _), (118, _)] ⟨ke rfl, ke rfl, ke rfl, trivial⟩ (fun (seen : List Nat) v => [(18, andIs v (lens ((outF l n (decM l own t o) seen).map rowFc).length))]) (fun (seen : List Nat) v => Hp M0 w0 noS ([ownRes 40 8 ((outF l n (decM l own t o) seen).map rowFc) v, iterR b3 b1 (decM l own t o).length seen, mapR encPl b1 (decM l own t o)])) (fun (seen : List Nat) => seen.Nodup ∧ ∀ q ∈ seen, q < (decM l own t o).length) (fun (seen : List Nat) => (decM l own t o).length - seen.length) ([]) (.slice none 0 0) (⟨List.nodup_nil, fun q hq => by cases hq⟩) ⟨⟨_, rfl, lens_nil (by rfl)⟩, trivial⟩ (fun _ _ h => h) ?_
        rintro seen v ⟨hnd, hlt⟩
        refine Tr.seq (Tr.regT ?_)
        refine TO.next (i := 1) (j := 2) rfl rfl (by decide) rfl (vl rfl) rfl rfl (fun hall1 => ?_) (fun q1 p1 hq1 hn1 => ?_)
        ·
         refine TO.oo rfl rfl rfl (ok_extract rfl (vl rfl) rfl) ?_
         refine TO.nil (Fin.go (Tr.seq ?_))
         refine Tr.cond rfl (fun h => nomatch h) (fun _ => ?_)
         refine Tr.exit ?_
         refine Fin.then_exit ?_
         refine Fin.then_exit ?_
         refine Fin.block_here ?_
         refine Fin.go (Tr.seq (Tr.regT ?_))
         refine TO.mv rfl rfl rfl rfl rfl ?_
         refine TO.efc 0 rfl rfl (by decide) (ef_callc rfl rfl (by decide) rfl (w_sortOF (c := fun p => cmpFc p.1 p.2) cmpFc_cmp.swo (Nat.lt_of_le_of_lt (Nat.le_trans (outF_len ..) (nodup_len hnd hlt)) hml)) ⟨⟨_, rfl, andIs_is _ _⟩, ⟨_, rfl, fn_le_clo e_aCompare (fun _ => w_aCompare)⟩, trivial⟩) ?_
         refine TO.frzL 0 18 rfl rfl (fun _ => rfl) (fun t1 hp1 => ?_)
         have hpl1 := hp1.len
         have hsp := sortL_spec cmpFc_cmp hp1
         have hst : t1.Perm ((decM l own t o).filterMap fun p => factOf l n p.2) := hsp.1.trans (outF_perm hnd hlt hall1)
         refine TO.nil (Fin.go (Tr.seq (Tr.reg0 ?_)))
         refine Ch.mv rfl rfl rfl rfl rfl ?_
         refine Ch.as rfl rfl rfl rfl rfl ?_
         refine Ch.as rfl rfl rfl rfl rfl ?_
         refine Ch.nil (Fin.go (Tr.ret ?_))
         refine Fin.retX2 rfl (RVal.tmp rfl (Pr.le_refl _)) (RVal.tmp rfl (Pr.le_refl _)) ?_
         · exact ex_in _ (fact_in ⟨hst, hsp.2⟩ (tup_le ⟨andIs_le _ _, Pr.le_refl _, trivial⟩))
        ·
         refine TO.oo rfl rfl rfl (ok_extract rfl (vl rfl) rfl) ?_
         refine TO.nil (Fin.go (Tr.seq ?_))
         refine Tr.cond rfl (fun _ => ?_) (fun h => nomatch h)
         refine Tr.skip (Fin.go (Tr.block (Tr.seq ?_)))
         have hin := (dec_in (l := l) (t := t) (o := o) own [] (by intro p hp; simp at hp) hi) p1 (List.mem_of_getElem? hq1)
         obtain ⟨g, hg⟩ := at_ (l := l) (k := p1.2.toNat) (by omega)
         have hof := outF_snoc l n (decM l own t o) seen q1
         rw [hq1] at hof
         have hol := Nat.le_trans (outF_len l n (decM l own t o) seen) (nodup_len hnd hlt)
         refine Tr.regT ?_
         refine TO.entry (i := 1) (j := 2) rfl rfl (by decide) rfl (vl rfl) rfl rfl hq1 ?_
         refine TO.oo rfl rfl rfl (ok_extract rfl (vl rfl) rfl) ?_
         refine TO.as rfl rfl rfl rfl rfl ?_
         refine TO.nil (Fin.go (Tr.seq (Tr.regT ?_)))
         refine TO.mv rfl rfl rfl rfl rfl ?_
         refine TO.mv rfl rfl rfl rfl rfl ?_
         refine TO.oo rfl rfl rfl (ok_indexAddr rfl Tryz.underlying27 sz42 (vl rfl) (vl rfl) (by omega) (row_atI hg)) ?_
         refine TO.oo rfl rfl rfl (ok_loadA rfl agg42 sz42 (vl rfl) rfl rfl) ?_
         refine TO.alloc rfl rfl (by decide) rfl z42 zo42 (fun b4 => ?_)
         refine TO.store_all 0 rfl rfl rfl (vl rfl) (VL.le (vl rfl) (agg_cellsP _)) rfl sz42 rfl rfl ?_
         refine TO.freeze 0 21 rfl rfl ?_
         refine TO.nil (Fin.go ?_)
         refine Tr.w6 0 5 18 20 21 118 rfl rfl rfl rfl rfl rfl ?_
         refine Tr.seq (Tr.reg0 ?_)
         refine Ch.oo rfl rfl rfl (ok_fieldAddr rfl fo42_5 (vl rfl) rfl) ?_
         refine Ch.oo rfl rfl rfl (ok_load1 rfl one3 (vl rfl)) ?_
         refine Ch.oo rfl rfl rfl (ok_int rfl (vl rfl) (vl rfl) rfl) ?_
         refine Ch.nil (Fin.go ?_)
         refine Tr.cn rfl (fun h14 q14 => ?_) (fun h14 q14 => ?_)
         ·
          refine Tr.regT ?_
          refine TO.mv rfl rfl rfl rfl rfl ?_
          refine TO.oo rfl rfl rfl (ok_fieldAddr rfl fo35_0 (vl rfl) rfl) ?_
          refine TO.oo rfl rfl rfl (ok_load1 rfl one3 (vl rfl)) ?_
          refine TO.oo rfl rfl rfl (ok_fieldAddr rfl fo42_6 (vl rfl) rfl) ?_
          refine TO.oo rfl rfl rfl (ok_load1 rfl one9 (vl rfl)) ?_
          refine TO.oo rfl rfl rfl (ok_fieldAddr rfl fo42_5 (vl rfl) rfl) ?_
          refine TO.oo rfl rfl rfl (ok_load1 rfl one3 (vl rfl)) ?_
          refine TO.oo rfl rfl rfl (ok_fieldAddr rfl fo42_7 (vl rfl) rfl) ?_
          refine TO.oo rfl rfl rfl (ok_loadA rfl agg38 sz38 (vl rfl) rfl rfl) ?_
          refine TO.oo rfl rfl rfl (ok_fieldAddr rfl fo42_8 (vl rfl) rfl) ?_
          refine TO.oo rfl rfl rfl (ok_load1 rfl one3 (vl rfl)) ?_
          refine TO.oo rfl rfl rfl (ok_fieldAddr rfl fo42_9 (vl rfl) rfl) ?_
          refine TO.oo rfl rfl rfl (ok_load1 rfl one9 (vl rfl)) ?_
          refine TO.mv rfl rfl rfl rfl rfl ?_
          refine TO.oo rfl rfl rfl (ok_build (rows := [(0, [_]), (1, [_]), (2, [_]), (3, _), (4, [_]), (5, [_]), (6, [_])]) rfl bl40 zo40 ⟨⟨rfl, (VL.le (vl rfl) (one_cellsP _))⟩, ⟨⟨rfl, (VL.le (vl rfl) (one_cellsP _))⟩, ⟨⟨rfl, (VL.le (vl rfl) (one_cellsP _))⟩, ⟨⟨rfl, (VL.le (vl rfl) (agg_cellsP _))⟩, ⟨⟨rfl, (VL.le (vl rfl) (one_cellsP _))⟩, ⟨⟨rfl, (VL.le (vl rfl) (one_cellsP _))⟩, ⟨⟨rfl, (VL.le (vl rfl) (one_cellsP _))⟩, trivial⟩⟩⟩⟩⟩⟩⟩ rfl) ?_
          refine TO.oo rfl rfl rfl (ok_buildSlice (xs := [.tmp 144]) (rows := [_]) rfl rfl Tryz.underlying29 sz40 z40 rfl (by decide) ⟨⟨(by exact rfl), (VL.le (vl rfl) (agg_cellsP _))⟩, trivial⟩ (by decide)) ?_
          refine TO.efs 0 rfl rfl (by decide) (ef_appmut rfl rfl (by decide) rfl Tryz.underlying29 sz40 by40 z40 rfl (by decide) (by decide) (vl rfl) ⟨_, rfl, full_le _ _⟩ (map_rows fun _ => rfl) (Nat.zero_lt_succ _) (by simp only [List.length_map, List.length_cons, List.length_nil]; unfold maxLen; omega) (by simp only [List.length_map, List.length_cons, List.length_nil]; omega)) (fun v1 => ?_)
          refine TO.as rfl rfl rfl rfl rfl ?_
          refine TO.nil (Fin.block ?_)
          first
           | rw [show ((some p1).bind fun p => factOf l n p.2) = _ from fact_no hg (by omega)] at hof
           | rw [show ((some p1).bind fun p => factOf l n p.2) = _ from fact_yes hg (by omega)] at hof
          exact Fin.famD1V1 (seen ++ [q1]) v1 (seen_next hnd hlt hn1 (lt_of_at hq1)) ⟨⟨_, rfl, lens_le (by rw [hof, List.map_append, List.length_append]; first | rfl | simp)⟩, ke rfl, ke rfl, ke rfl, trivial⟩ (fun _ _ h => own_cast (by rw [hof, List.map_append]; first | rfl | simp) h)
         ·
          refine Tr.skip (Fin.block ?_)
          first
           | rw [show ((some p1).bind fun p => factOf l n p.2) = _ from fact_no hg (by omega)] at hof
           | rw [show ((some p1).bind fun p => factOf l n p.2) = _ from fact_yes hg (by omega)] at hof
          exact Fin.famD1V1 (seen ++ [q1]) v (seen_next hnd hlt hn1 (lt_of_at hq1)) ⟨⟨_, rfl, lens_le (by rw [hof, List.map_append, List.length_append]; first | rfl | simp)⟩, ke rfl, ke rfl, ke rfl, trivial⟩ (fun _ _ h => own_cast (by rw [hof, List.map_append]; first | rfl | simp) h)
end Go.Proofs.YthmnoekgicggnaaGreat
namespace Go.Proofs.YthmnoekgicggnaaGreat
open Go Go.RowKit Cp

theorem look_none {m : List (Plc × Int)} {k : Plc} (h : Cp.look m k = none) : ∀ p ∈ m, ¬ p.1 = k := by
  intro p hp e
  unfold Cp.look at h
  rw [Option.map_eq_none_iff, List.find?_eq_none] at h
  exact h p hp (by simp [e])
theorem look_some {m : List (Plc × Int)} {k : Plc} {j : Int} (h : Cp.look m k = some j) : (k, j) ∈ m := by
  unfold Cp.look at h
  rw [Option.map_eq_some_iff] at h
  obtain ⟨p, h1, h2⟩ := h
  have h3 := List.find?_some h1
  have h4 : k = p.1 := by simpa using h3
  have h5 := List.mem_of_find?_eq_some h1
  rw [h4, ← h2]; exact h5
abbrev KeysN (m : List (Plc × Int)) : Prop := m.Pairwise fun p q => ¬ p.1 = q.1
theorem keys_eq {m : List (Plc × Int)} (h : KeysN m) {p q : Plc × Int} (hp : p ∈ m) (hq : q ∈ m) (e : p.1 = q.1) : p = q := by
  induction m with
  | nil => cases hp
  | cons a m ih =>
    obtain ⟨h1, h2⟩ := List.pairwise_cons.1 h
    rcases List.mem_cons.1 hp with hp' | hp' <;> rcases List.mem_cons.1 hq with hq' | hq'
    · rw [hp', hq']
    · rw [hp'] at e; exact absurd e (h1 q hq')
    · rw [hq'] at e; exact absurd e.symm (h1 p hp')
    · exact ih h2 hp' hq'
theorem upd_new {m : List (Plc × Int)} {k : Plc} {v : Int} (h : Cp.look m k = none) : updM m k v = m ++ [(k, v)] := by
  refine Cp.updM_none ?_
  rw [List.findIdx?_eq_none_iff]
  intro p hp
  have := look_none h p hp
  simpa using fun e => this e.symm
theorem upd_old {m : List (Plc × Int)} {k : Plc} {j v : Int} (hn : KeysN m) (h : Cp.look m k = some j) : KeysN (updM m k v) ∧ ∀ p, p ∈ updM m k v ↔ p = (k, v) ∨ (p ∈ m ∧ ¬ p.1 = k) := by
  induction m with
  | nil => cases look_some h
  | cons a m ih =>
    obtain ⟨h1, h2⟩ := List.pairwise_cons.1 hn
    by_cases ha : k = a.1
    · have e : updM (a :: m) k v = (k, v) :: m := by
        rw [Cp.updM_some (i := 0) (by rw [List.findIdx?_cons]; simp [ha])]; rfl
      rw [e]
      refine ⟨List.pairwise_cons.2 ⟨fun q hq => ?_, h2⟩, fun p => ⟨fun hp => ?_, fun hp => ?_⟩⟩
      · show ¬ k = q.1; rw [ha]; exact h1 q hq
      · rcases List.mem_cons.1 hp with rfl | hp
        · exact .inl rfl
        · exact .inr ⟨List.mem_cons_of_mem _ hp, by rw [ha]; exact fun e => h1 p hp e.symm⟩
      · rcases hp with rfl | ⟨hp, hk⟩
        · exact List.mem_cons_self ..
        · rcases List.mem_cons.1 hp with rfl | hp
          · exact absurd ha.symm hk
          · exact List.mem_cons_of_mem _ hp
    · have hl : Cp.look m k = some j := by
        unfold Cp.look at h ⊢
        rw [List.find?_cons_of_neg (by simpa using ha)] at h; exact h
      obtain ⟨q, hq⟩ : ∃ q, (m.findIdx? fun p => decide (k = p.1)) = some q := by
        cases hf : m.findIdx? fun p => decide (k = p.1) with
        | some q => exact ⟨q, rfl⟩
        | none =>
          rw [List.findIdx?_eq_none_iff] at hf
          have := hf _ (look_some hl)
          simp at this
      have e : updM (a :: m) k v = a :: updM m k v := by
        rw [Cp.updM_some hq, Cp.updM_some (i := q + 1) (by rw [List.findIdx?_cons]; simp [ha, hq])]; rfl
      obtain ⟨h3, h4⟩ := ih h2 hl
      rw [e]
      refine ⟨List.pairwise_cons.2 ⟨fun p hp => ?_, h3⟩, fun p => ?_⟩
      · rcases (h4 p).1 hp with rfl | ⟨hp, _⟩
        · exact fun e => ha e.symm
        · exact h1 p hp
      · rw [List.mem_cons, h4 p, List.mem_cons]
        constructor
        · rintro (rfl | h | ⟨h, h'⟩)
          · exact .inr ⟨.inl rfl, fun e => ha e.symm⟩
          · exact .inl h
          · exact .inr ⟨.inr h, h'⟩
        · rintro (h | ⟨rfl | h, h'⟩)
          · exact .inr (.inl h)
          · exact .inl rfl
          · exact .inr (.inr ⟨h, h'⟩)
/-- In the time that counts. -/
abbrev InT (t o : Int) (f : Fnd) : Prop := ¬ (f.day > t ∨ f.day < t - o)
/-- What the map holds once these were looked at. -/
structure DecI (l : List Fnd) (t o : Int) (done : List Int) (m : List (Plc × Int)) : Prop where
  keys : KeysN m
  val : ∀ p ∈ m, p.2 ∈ done ∧ ∃ f, l[p.2.toNat]? = some f ∧ plcOf f = p.1 ∧ InT t o f
  best : ∀ j ∈ done, ∀ g, l[j.toNat]? = some g → InT t o g → ∃ p ∈ m, p.1 = plcOf g ∧ ∃ f, l[p.2.toNat]? = some f ∧ ¬ better g f ∧ (¬ better f g → p.2 ≤ j)
theorem dec_step {l : List Fnd} {t o : Int} {done : List Int} {m : List (Plc × Int)} {i : Int} (hi : i.toNat < l.length) (hle : ∀ j ∈ done, j ≤ i) (h : DecI l t o done m) : DecI l t o (done ++ [i]) (stepM l t o m i) := by
  obtain ⟨f, hf⟩ := at_ hi
  have hmem : ∀ j, j ∈ done ++ [i] ↔ j ∈ done ∨ j = i := fun j => by simp
  by_cases hout : f.day > t ∨ f.day < t - o
  · rw [step_out hf hout]
    refine ⟨h.keys, fun p hp => ?_, fun j hj g hg hin => ?_⟩
    · obtain ⟨h1, h2⟩ := h.val p hp
      exact ⟨(hmem _).2 (.inl h1), h2⟩
    · rcases (hmem j).1 hj with hj | rfl
      · exact h.best j hj g hg hin
      · rw [hf] at hg; cases hg; exact absurd hout hin
  · cases hl : Cp.look m (plcOf f) with
    | none =>
      rw [step_new hf hout (by rw [hl]; rfl), upd_new hl]
      refine ⟨?_, fun p hp => ?_, fun j hj g hg hin => ?_⟩
      · unfold KeysN
        rw [List.pairwise_append]
        exact ⟨h.keys, by simp, fun p hp q hq => by simp at hq; subst hq; exact look_none hl p hp⟩
      · rcases List.mem_append.1 hp with hp | hp
        · obtain ⟨h1, h2⟩ := h.val p hp
          exact ⟨(hmem _).2 (.inl h1), h2⟩
        · simp at hp; subst hp; exact ⟨(hmem _).2 (.inr rfl), f, hf, rfl, hout⟩
      · rcases (hmem j).1 hj with hj | rfl
        · obtain ⟨p, hp, h1⟩ := h.best j hj g hg hin
          exact ⟨p, List.mem_append_left _ hp, h1⟩
        · rw [hf] at hg; cases hg
          exact ⟨(plcOf f, j), by simp, rfl, f, hf, by unfold better; omega, fun _ => Int.le_refl _⟩
    | some q =>
      have hqm := look_some hl
      obtain ⟨hqd, g0, hg0, hpl, hin0⟩ := h.val _ hqm
      rw [step_old hf hout (by rw [hl]; rfl) (g := g0) (by rw [hl]; exact hg0)]
      by_cases hb : better f g0
      · rw [if_pos hb]
        obtain ⟨hk, hu⟩ := upd_old (v := i) h.keys hl
        refine ⟨hk, fun p hp => ?_, fun j hj g hg hin => ?_⟩
        · rcases (hu p).1 hp with rfl | ⟨hp, _⟩
          · exact ⟨(hmem _).2 (.inr rfl), f, hf, rfl, hout⟩
          · obtain ⟨h1, h2⟩ := h.val p hp
            exact ⟨(hmem _).2 (.inl h1), h2⟩
        · rcases (hmem j).1 hj with hj | rfl
          · obtain ⟨p, hp, h1, f1, hf1, h2, h3⟩ := h.best j hj g hg hin
            by_cases hpk : p.1 = plcOf f
            · have e := keys_eq h.keys hp hqm hpk
              subst e
              have e2 : f1 = g0 := by have := hf1.symm.trans hg0; simpa using this
              subst e2
              exact ⟨(plcOf f, i), (hu _).2 (.inl rfl), by rw [← hpk]; exact h1, f, hf, by unfold better at *; omega, fun h4 => absurd (show better f g by unfold better at *; omega) h4⟩
            · exact ⟨p, (hu p).2 (.inr ⟨hp, hpk⟩), h1, f1, hf1, h2, h3⟩
          · rw [hf] at hg; cases hg
            exact ⟨(plcOf f, j), (hu _).2 (.inl rfl), rfl, f, hf, by unfold better; omega, fun _ => Int.le_refl _⟩
      · rw [if_neg hb]
        refine ⟨h.keys, fun p hp => ?_, fun j hj g hg hin => ?_⟩
        · obtain ⟨h1, h2⟩ := h.val p hp
          exact ⟨(hmem _).2 (.inl h1), h2⟩
        · rcases (hmem j).1 hj with hj | rfl
          · exact h.best j hj g hg hin
          · rw [hf] at hg; cases hg
            exact ⟨_, hqm, rfl, g0, hg0, hb, fun _ => hle q hqd⟩
theorem dec_spec {l : List Fnd} {t o : Int} {own : List Int} (hi : InR own l.length) (ha : own.Pairwise (· ≤ ·)) : DecI l t o own (decM l own t o) := by
  have key : ∀ (r done : List Int) (m : List (Plc × Int)), InR r l.length → (∀ j ∈ done, ∀ i ∈ r, j ≤ i) → r.Pairwise (· ≤ ·) → DecI l t o done m → DecI l t o (done ++ r) (r.foldl (stepM l t o) m) := by
    intro r
    induction r with
    | nil => intro done m _ _ _ h; simpa using h
    | cons i r ih =>
      intro done m h1 h2 h3 h
      obtain ⟨h4, h5⟩ := List.pairwise_cons.1 h3
      have hi := h1 i (by simp)
      have := ih (done ++ [i]) (stepM l t o m i) (fun j hj => h1 j (List.mem_cons_of_mem _ hj)) (fun j hj k hk => by
        rcases List.mem_append.1 hj with hj | hj
        · exact h2 j hj k (List.mem_cons_of_mem _ hk)
        · simp at hj; subst hj; exact h4 k hk) h5 (dec_step (by omega) (fun j hj => h2 j hj i (by simp)) h)
      simpa using this
  have := key own [] [] hi (by simp) ha ⟨.nil, by simp, by simp⟩
  show DecI l t o own (own.foldl (stepM l t o) [])
  simpa using this
/-- What a fact is the fact of. -/
theorem fact_of {l : List Fnd} {n t o : Int} {own : List Int} (hi : InR own l.length) (ha : own.Pairwise (· ≤ ·)) {a : Fct} (h : a ∈ (decM l own t o).filterMap fun p => factOf l n p.2) :
    ∃ f, a.fnd ∈ own ∧ l[a.fnd.toNat]? = some f ∧ ¬ f.kind = 8 ∧ InT t o f ∧ a = ⟨n, f.subj, f.kind, f.alg, f.bits, f.num, f.text, a.fnd⟩ ∧ (plcOf f, a.fnd) ∈ decM l own t o ∧ ∀ j ∈ own, ∀ g, l[j.toNat]? = some g → InT t o g → plcOf g = plcOf f → ¬ better g f ∧ (¬ better f g → a.fnd ≤ j) := by
  obtain ⟨p, hp, h1⟩ := List.mem_filterMap.1 h
  have hd := dec_spec (t := t) (o := o) hi ha
  obtain ⟨h2, f, hf, h3, h4⟩ := hd.val p hp
  by_cases hk : f.kind = 8
  · rw [fact_no hf hk] at h1; cases h1
  · rw [fact_yes hf hk] at h1
    injection h1 with h1
    subst h1
    refine ⟨f, h2, hf, hk, h4, rfl, by rw [h3]; exact hp, fun j hj g hg hin e => ?_⟩
    obtain ⟨q, hq, h5, f1, hf1, h6, h7⟩ := hd.best j hj g hg hin
    have e2 := keys_eq hd.keys hp hq (by rw [h5, e, h3])
    subst e2
    rw [hf] at hf1; cases hf1
    exact ⟨h6, h7⟩

end Go.Proofs.YthmnoekgicggnaaGreat
namespace Go.Proofs.YthmnoekgicggnaaGreat
open Go Go.RowKit Cp

theorem asc_pw_le {l : List Int} (h : Asc l) : l.Pairwise (· ≤ ·) := by
  rw [List.pairwise_iff_getElem]
  intro i j hi hj hij
  exact asc_le h (j - i) i (List.getElem?_eq_getElem hi) (by rw [show i + (j - i) = j by omega]; exact List.getElem?_eq_getElem hj)
theorem fnd_of {x y : Fnd} (h : x.src = y.src ∧ x.host = y.host ∧ x.machine = y.machine ∧ x.day = y.day ∧ x.conf = y.conf ∧ x.kind = y.kind ∧ x.subj = y.subj ∧ x.alg = y.alg ∧ x.bits = y.bits ∧ x.num = y.num ∧ x.text = y.text) : x = y := by
  cases x; cases y; simp at h; simp [h]
theorem fnd_iff {x y : Fnd} : x = y ↔ (x.src = y.src ∧ x.host = y.host ∧ x.machine = y.machine ∧ x.day = y.day ∧ x.conf = y.conf ∧ x.kind = y.kind ∧ x.subj = y.subj ∧ x.alg = y.alg ∧ x.bits = y.bits ∧ x.num = y.num ∧ x.text = y.text) :=
  ⟨by rintro rfl; simp, fnd_of⟩
theorem numsTo_in (n : Nat) : InR (numsTo n) n := by
  intro i hi
  obtain ⟨k, hk⟩ := List.mem_iff_getElem?.1 hi
  have h1 := numsTo_at hk
  have h2 := lt_of_at hk
  rw [numsTo_len] at h2
  omega
theorem mem_numsTo {n k : Nat} (h : k < n) : ((k : Nat) : Int) ∈ numsTo n := by
  unfold numsTo; exact List.mem_map.2 ⟨k, List.mem_range.2 h, rfl⟩

end Go.Proofs.YthmnoekgicggnaaGreat
namespace Go.Proofs.YthmnoekgicggnaaGreat
open Go Go.RowKit Cp

section
variable {β : Type} [DecidableEq β]
def ddS (acc : List β) (x : β) : List β := if acc.getLast? = some x then acc else acc ++ [x]
/-- Each run of equal neighbours once. -/
def ddL (l : List β) : List β := l.foldl ddS []
theorem ddL_succ {l : List β} {j : Nat} {x : β} (h : l[j]? = some x) : ddL (l.take (j + 1)) = ddS (ddL (l.take j)) x := by
  unfold ddL; rw [List.take_add_one, h, List.foldl_append]; rfl
theorem ddS_last (acc : List β) (x : β) : (ddS acc x).getLast? = some x := by
  unfold ddS; split
  · assumption
  · simp
theorem ddL_last {l : List β} {j : Nat} {y : β} (hj : 1 ≤ j) (h : l[j - 1]? = some y) : (ddL (l.take j)).getLast? = some y := by
  have := ddL_succ (j := j - 1) h
  rw [show j - 1 + 1 = j by omega] at this
  rw [this]; exact ddS_last _ _
theorem ddL_ne {l : List β} {j : Nat} {x y : β} (hj : 1 ≤ j) (hx : l[j]? = some x) (hy : l[j - 1]? = some y) (hne : ¬ x = y) : ddL (l.take (j + 1)) = ddL (l.take j) ++ [x] := by
  rw [ddL_succ hx]; unfold ddS
  rw [if_neg]
  rw [ddL_last hj hy]; intro e; injection e with e; exact hne e.symm
theorem ddL_same {l : List β} {j : Nat} {x y : β} (hj : 1 ≤ j) (hx : l[j]? = some x) (hy : l[j - 1]? = some y) (he : x = y) : ddL (l.take (j + 1)) = ddL (l.take j) := by
  rw [ddL_succ hx]; unfold ddS
  rw [if_pos]
  rw [ddL_last hj hy, he]
theorem ddL_short {l : List β} (h : l.length < 2) : ddL l = l := by
  match l, h with
  | [], _ => rfl
  | [x], _ => rfl
theorem ddS_len (acc : List β) (x : β) : (ddS acc x).length ≤ acc.length + 1 := by unfold ddS; split <;> simp
theorem ddL_len (l : List β) : (ddL l).length ≤ l.length := by
  have key : ∀ (l acc : List β), (l.foldl ddS acc).length ≤ acc.length + l.length := by
    intro l
    induction l with
    | nil => intro acc; simp
    | cons x l ih => intro acc; have h1 := ih (ddS acc x); have h2 := ddS_len acc x; simp only [List.foldl_cons, List.length_cons]; omega
  have := key l []
  unfold ddL; simpa using this
theorem mem_ddS {acc : List β} {a x : β} : x ∈ ddS acc a ↔ x ∈ acc ∨ x = a := by
  unfold ddS; split
  · rename_i h
    constructor
    · exact .inl
    · rintro (h1 | rfl)
      · exact h1
      · exact List.mem_of_getLast? h
  · simp
theorem mem_ddL {l : List β} {x : β} : x ∈ ddL l ↔ x ∈ l := by
  have key : ∀ (l acc : List β), x ∈ l.foldl ddS acc ↔ x ∈ acc ∨ x ∈ l := by
    intro l
    induction l with
    | nil => intro acc; simp
    | cons a l ih => intro acc; rw [List.foldl_cons, ih, mem_ddS, List.mem_cons, or_assoc]
  unfold ddL; rw [key]; simp
abbrev Strict (c : β → β → Int) (l : List β) : Prop := l.Pairwise fun x y => c x y < 0
theorem ddL_strict {c : β → β → Int} (hc : Cmp c) (he : ∀ x y, c x y = 0 → x = y) {l : List β} (h : SortedC c l) : Strict c (ddL l) := by
  have key : ∀ (l acc : List β), Strict c acc → (∀ a ∈ acc, ∀ x ∈ l, c a x ≤ 0) → SortedC c l → Strict c (l.foldl ddS acc) := by
    intro l
    induction l with
    | nil => intro acc h1 _ _; exact h1
    | cons x l ih =>
      intro acc h1 h2 h3
      obtain ⟨h4, h5⟩ := List.pairwise_cons.1 h3
      rw [List.foldl_cons]
      refine ih _ ?_ (fun a ha y hy => ?_) h5
      · unfold ddS; split
        · exact h1
        · rename_i hl
          unfold Strict
          rw [List.pairwise_append]
          refine ⟨h1, by simp, fun a ha b hb => ?_⟩
          simp at hb; subst hb
          have hle := h2 a ha b (by simp)
          rcases Int.lt_or_eq_of_le hle with hlt | heq
          · exact hlt
          · have e := he _ _ heq
            subst e
            exfalso
            obtain ⟨pre, z, hz⟩ : ∃ pre z, acc = pre ++ [z] := by
              rcases List.eq_nil_or_concat acc with rfl | ⟨pre, z, hz⟩
              · cases ha
              · exact ⟨pre, z, by simpa using hz⟩
            subst hz
            rcases List.mem_append.1 ha with ha | ha
            · have h6 := (List.pairwise_append.1 h1).2.2 a ha z (by simp)
              have h7 := h2 z (by simp) a (by simp)
              have h8 := hc.swap a z
              have h6 : c a z < 0 := h6
              omega
            · simp at ha; subst ha; simp at hl
      · rcases mem_ddS.1 ha with ha | rfl
        · exact h2 a ha y (List.mem_cons_of_mem _ hy)
        · exact h4 y hy
  exact key l [] .nil (by simp) h
theorem strict_uniq {c : β → β → Int} (hc : Cmp c) {l m : List β} (h1 : Strict c l) (h2 : Strict c m) (h : ∀ x, x ∈ l ↔ x ∈ m) : l = m := by
  have hn : ∀ {k : List β}, Strict c k → k.Nodup := fun hk => hk.imp fun {a b} hab e => by subst e; have := hc.swap a a; omega
  have hp : l.Perm m := (List.perm_ext_iff_of_nodup (hn h1) (hn h2)).2 h
  refine sorted_uniq hc hp (h1.imp fun h => Int.le_of_lt h) (h2.imp fun h => Int.le_of_lt h) fun x y hx hy e => ?_
  obtain ⟨i, hi, rfl⟩ := List.mem_iff_getElem.1 hx
  obtain ⟨j, hj, rfl⟩ := List.mem_iff_getElem.1 hy
  have hp := List.pairwise_iff_getElem.1 h1
  rcases Nat.lt_trichotomy i j with hij | hij | hij
  · have := hp i j hi hj hij; omega
  · subst hij; rfl
  · have := hp j i hj hi hij
    have h3 := hc.swap l[i] l[j]
    omega
omit [DecidableEq β] in
theorem set_take {l : List β} {w : Nat} {u : β} (h : w < l.length) : (l.set w u).take (w + 1) = l.take w ++ [u] := by
  rw [List.take_add_one, List.getElem?_set_self h, List.take_set_of_le (Nat.le_refl _)]; rfl
theorem cells_atI {γ : Type} {f : γ → List Pr} {l : List γ} {qs : List Pr} {sz : Nat} {i : Int} {x : γ} (hf : ∀ x, (f x).length = sz) (h : l[i.toNat]? = some x) : ((((l.map f).flatten ++ qs).drop (0 + i.toNat * sz)).take sz) = f x := by
  rw [Nat.zero_add]; exact cells_at hf h
theorem cells_atO {γ : Type} {f : γ → List Pr} {l : List γ} {qs : List Pr} {sz m i : Nat} {x : γ} (hf : ∀ x, (f x).length = sz) (h : l[m + i]? = some x) : ((((l.map f).flatten ++ qs).drop (m * sz + i * sz)).take sz) = f x := by
  rw [← Nat.add_mul]; exact cells_at hf h
end
deriving instance DecidableEq for Fnd
theorem adj_pw {c : Fnd → Fnd → Int} (hc : Cmp c) {l : List Fnd} (h : ∀ (j : Nat) a b, l[j]? = some a → l[j + 1]? = some b → c a b < 0) : Strict c l := by
  induction l with
  | nil => exact .nil
  | cons x l ih =>
    have hl : ∀ (j : Nat) a b, l[j]? = some a → l[j + 1]? = some b → c a b < 0 := fun j a b ha hb => h (j + 1) a b (by simpa using ha) (by simpa using hb)
    have ih := ih hl
    refine List.pairwise_cons.2 ⟨fun y hy => ?_, ih⟩
    cases l with
    | nil => cases hy
    | cons z l =>
      have h0 : c x z < 0 := h 0 x z rfl rfl
      rcases List.mem_cons.1 hy with rfl | hy
      · exact h0
      · exact hc.tr x z y h0 ((List.pairwise_cons.1 ih).1 y hy)
theorem ordF_zero {a b : Fnd} (h : ordF a b = 0) : a = b := by
  have hk : ∀ (l : List Int), orL l = 0 → ∀ x ∈ l, x = 0 := by
    intro l
    induction l with
    | nil => intro _ x hx; cases hx
    | cons y l ih =>
      intro h x hx
      rw [orL_cons] at h
      by_cases hy : y = 0
      · rw [if_pos hy] at h
        rcases List.mem_cons.1 hx with rfl | hx
        · exact hy
        · exact ih h x hx
      · rw [if_neg hy] at h; exact absurd h hy
  have := hk _ h
  unfold keysF at this
  simp only [List.mem_cons, List.not_mem_nil, or_false, forall_eq_or_imp, forall_eq, cmp_zero, cmpI_zero] at this
  obtain ⟨h1, h2, h3, h4, h5, h6, h7, h8, h9, h10, h11⟩ := this
  cases a; cases b; simp_all
theorem put_mem' {l : List Fnd} {f x : Fnd} : x ∈ putF l f ↔ x ∈ l ∨ x = f := by
  constructor
  · exact put_mem
  · intro h
    unfold putF
    split
    · rename_i hk
      rcases h with h | rfl
      · exact h
      · obtain ⟨h1, h2⟩ := hk
        rw [Option.map_eq_some_iff] at h2
        obtain ⟨y, hy, e⟩ := h2
        rw [← ordF_zero e]; exact List.mem_of_getElem? hy
    · rcases h with h | rfl
      · rw [List.append_assoc, List.mem_append, List.mem_append]
        rw [← List.take_append_drop (kF l f) l] at h
        rcases List.mem_append.1 h with h | h
        · exact .inl h
        · exact .inr (.inr h)
      · simp
abbrev normL (l : List Fnd) : List Fnd := l.foldl putF []
theorem mem_normL {l : List Fnd} {x : Fnd} : x ∈ normL l ↔ x ∈ l := by
  have key : ∀ (l acc : List Fnd), x ∈ l.foldl putF acc ↔ x ∈ acc ∨ x ∈ l := by
    intro l
    induction l with
    | nil => intro acc; simp
    | cons a l ih => intro acc; rw [List.foldl_cons, ih, put_mem', List.mem_cons, or_assoc]
  rw [key]; simp
theorem norm_strict (l : List Fnd) : Strict ordF (normL l) := adj_pw ordF_cmp (fold_adj l [] (fun j a b h => by simp at h))
/-- Sorted, and then each once: the normal list. -/
theorem dd_norm {l st : List Fnd} (hp : st.Perm l) (hs : SortedC ordF st) : ddL st = normL l :=
  strict_uniq ordF_cmp (ddL_strict ordF_cmp (fun _ _ => ordF_zero) hs) (norm_strict l) fun x => by rw [mem_ddL, mem_normL]; exact hp.mem_iff
end Go.Proofs.YthmnoekgicggnaaGreat
