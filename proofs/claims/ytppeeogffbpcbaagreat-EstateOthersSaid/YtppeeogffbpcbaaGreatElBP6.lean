/-
  The law: a change of one endpoint leaves all others, the edges and the items as they are.
-/
import Derived.Test.YtppeeogffbpcbaaGreatRows
import Derived.Test.YtppeeogffbpcbaaGreatElBP5
set_option linter.all false
set_option maxRecDepth 40000
set_option maxHeartbeats 16000000
namespace Go.Proofs.YtppeeogffbpcbaaGreat
open Go Go.RowKit Cp

theorem take_snocM {β γ : Type} {f : β → γ} {l : List β} {k : Nat} {x : β} (h : l[k]? = some x) : (l.take k).map f ++ [f x] = (l.take (k + 1)).map f := by rw [List.take_add_one, h, List.map_append]; rfl

theorem w_R24CopyI {x : Idn} (hx : x.small) : Fun Tryz.prog 80 [agg (rowId x)] (agg (rowId x)) := by
 refine fo Tryz.func80 rfl ⟨rfl, rfl⟩ fun M0 w0 => ?_
 have hch := hx.chain
 refine Tr.seq (Tr.regT (tp rfl (ok_box rfl (VL.le (vl rfl) (agg_cellsP _))) ?_))
 refine TO.alloc rfl rfl (by decide) rfl z27 zo27 (fun b1 => ?_)
 refine ap ?_
 refine ap ?_
 refine TO.alloc rfl rfl (by decide) rfl z27 zo27 (fun b2 => ?_)
 refine ap ?_
 refine ac ?_
 refine wk5 2 3 12 13 14 rfl (Tr.block (Tr.reC 0 [int x.alg, int x.bits, int x.keyId, andIs (.slice none 0 0) (slice 15 ((x.chain.take 0).map rowCr))] rfl ⟨Pr.le_refl _, Pr.le_refl _, Pr.le_refl _, own_nil rfl, trivial⟩ (Tr.addnil 131 15 (Tr.loopV1 [(2, _), (3, _), (12, _), (13, _)] ⟨ke rfl, ke rfl, ke rfl, ke rfl, trivial⟩ (fun k v => [(14, int ((k : Nat) : Int))]) (fun k v => Hp M0 w0 noS ([appRes 131 15 v, cellsRes true b2 27 [int x.alg, int x.bits, int x.keyId, andIs v (slice 15 ((x.chain.take k).map rowCr))], cellsRes true b1 27 (([.int .i64 0, .int .i64 0, .int .i64 0, .slice none 0 0] : List Value).map is)])) (fun k : Nat => k ≤ (x.chain).length) (fun k : Nat => (x.chain).length - k) 0 (.slice none 0 0) (Nat.zero_le _) ⟨ke rfl, trivial⟩ (fun _ _ h => h) ?_))))
 rintro k v hle_k
 refine ac ?_
 refine Tr.seq ?_
 refine Tr.cn rfl ?_ ?_ <;> intro h1 q1
 have hk_k : k < (x.chain).length := lt_of_dec h1
 obtain ⟨c, hx_k⟩ := at_ hk_k
 have hcn := hx.names c (List.mem_of_getElem? hx_k)
 refine ac ?_
 refine Tr.seq (Tr.block (Tr.seq (Tr.regT (tp rfl (ok_indexAddr rfl Tryz.underlying25 sz131 (vl rfl) (vl rfl) (by omega) (by exact row_at (by assumption))) ?_))))
 refine tp rfl (ok_loadA rfl agg131 sz131 (vl rfl) rfl rfl) ?_
 refine TO.alloc rfl rfl (by decide) rfl z131 zo131 (fun b3 => ?_)
 refine ap ?_
 refine ap ?_
 refine tp rfl (ok_appN rfl Tryz.underlying74 sz9 by9 z9 rfl (by decide) (vl rfl) (by simp only [List.length_map]; unfold maxLen; omega) (by simp only [List.length_map]; omega)) ?_
 refine ap ?_
 refine wk6 2 3 5 12 13 14 rfl ?_
 refine ap ?_
 refine TO.efs 1 rfl rfl (by decide) (ef_append rfl rfl (by decide) rfl Tryz.underlying25 sz131 by131 z131 rfl (by decide) ⟨_, rfl, andIs_le _ _⟩ ⟨_, rfl, full_le _ _⟩ (by simp only [List.length_map, List.length_append, List.length_cons, List.length_nil, List.length_take]; unfold maxLen; omega) (by simp only [List.length_map, List.length_append, List.length_cons, List.length_nil, List.length_take]; omega) (appR_is (by exact List.Mem.head _) ⟨_, rfl, andIs_is _ _⟩)) (fun v1 => ?_)
 refine ap ?_
 refine Tr.drop 0 ?_
 refine ac ?_
 refine Fin.reC 1 [int x.alg, int x.bits, int x.keyId, andIs v1 (slice 15 ((x.chain.take (k + 1)).map rowCr))] rfl ⟨Pr.le_refl _, Pr.le_refl _, Pr.le_refl _, own_le (take_snocM (f := rowCr) hx_k), trivial⟩ (Fin.famV1 (k + 1) v1 (⟨hk_k, by omega⟩) ⟨⟨_, rfl, int_succ k⟩, ke rfl, ke rfl, ke rfl, ke rfl, trivial⟩ (fun _ _ h => h))
 have he_k : k = (x.chain).length := by have := ge_of_dec h1; omega
 subst he_k
 refine ac ?_
 refine ap ?_
 refine Tr.ret (Fin.retX1 rfl (RVal.cell 2 rfl rfl agg27 sz27 rfl (Pr.le_refl _)) ?_)
 · exact agg_le ⟨Pr.le_refl _, Pr.le_refl _, Pr.le_refl _, Pr.le_trans (andIs_le _ _) (Pr.le_of_eq (by rw [List.take_length])), trivial⟩
theorem w_R24Copy {e : Ept} (hsm : e.small) : Fun Tryz.prog 96 [agg (rowEp e)] (agg (rowEp e)) := by
 refine fo Tryz.func96 rfl ⟨rfl, rfl⟩ fun M0 w0 => ?_
 have hs1 := hsm.suites
 have hs2 := hsm.anchors
 have hs3 := hsm.hashes
 have hs4 := hsm.idl
 refine Tr.seq (Tr.regT (tp rfl (ok_box rfl (VL.le (vl rfl) (agg_cellsP _))) ?_))
 refine TO.alloc rfl rfl (by decide) rfl z32 zo32 (fun b1 => ?_)
 refine ao ?_
 refine ao ?_
 refine TO.alloc rfl rfl (by decide) rfl z32 zo32 (fun b2 => ?_)
 refine TO.store_all 0 rfl rfl rfl (vl rfl) (VL.le (vl rfl) (agg_cellsP _)) rfl sz32 rfl rfl ?_
 refine ao ?_
 refine Tr.seq (Tr.rx ?_)
 refine ax ?_
 refine xo rfl (fun _ => ok_appN rfl Tryz.underlying22 sz3 by3 z3 rfl (by decide) (vl rfl) (by simp only [List.length_map]; unfold maxLen; omega) (by simp only [List.length_map]; omega)) ?_
 refine ax ?_
 refine xo rfl (fun _ => ok_appN rfl Tryz.underlying22 sz3 by3 z3 rfl (by decide) (vl rfl) (by simp only [List.length_map]; unfold maxLen; omega) (by simp only [List.length_map]; omega)) ?_
 refine ax ?_
 refine xo rfl (fun _ => ok_appN rfl Tryz.underlying22 sz3 by3 z3 rfl (by decide) (vl rfl) (by simp only [List.length_map]; unfold maxLen; omega) (by simp only [List.length_map]; omega)) ?_
 refine xo rfl (fun _ => okp_fieldAddr rfl fo32_3 (vl rfl)) (Cx.ef0 0 rfl rfl (ef_store rfl rfl (vl rfl) (VL.le (vl rfl) (one_cellsP _)) sz22 rfl (by exact Nat.le_of_ble_eq_true rfl) rfl) (xo rfl (fun _ => okp_fieldAddr rfl fo32_6 (vl rfl)) (Cx.ef0 0 rfl rfl (ef_store rfl rfl (vl rfl) (VL.le (vl rfl) (one_cellsP _)) sz22 rfl (by exact Nat.le_of_ble_eq_true rfl) rfl) (xo rfl (fun _ => okp_fieldAddr rfl fo32_7 (vl rfl)) (Cx.ef0 0 rfl rfl (ef_store rfl rfl (vl rfl) (VL.le (vl rfl) (one_cellsP _)) sz22 rfl (by exact Nat.le_of_ble_eq_true rfl) rfl) ?_)))))
 refine Cx.nil ⟨by kernel_rfl, ?_⟩
 refine FinX.done al2 (Fin.go (wk3 1 2 3 rfl ?_))
 refine ao ?_
 refine TO.ef0 0 rfl rfl (ef_store rfl rfl (vl rfl) (VL.le (vl rfl) (one_cellsP _)) sz30 rfl (by exact Nat.le_of_ble_eq_true rfl) rfl) ?_
 refine ao ?_
 refine ac ?_
 refine Tr.block (Tr.reC 0 [str e.name, int e.least, int e.most, ints e.suites, bool e.own, andIs (.slice none 0 0) (slice 4 ((e.ids.take 0).map rowId)), ints e.anchors, ints e.hashes, bool e.fall] rfl ⟨Pr.le_refl _, Pr.le_refl _, Pr.le_refl _, Pr.le_refl _, Pr.le_refl _, own_nil rfl, Pr.le_refl _, Pr.le_refl _, Pr.le_refl _, trivial⟩ (Tr.addnil 27 4 (Tr.loopV1 [(2, _), (3, _), (21, _), (22, _)] ⟨ke rfl, ke rfl, ke rfl, ke rfl, trivial⟩ (fun k v => [(23, int ((k : Nat) : Int))]) (fun k v => Hp M0 w0 noS ([appRes 27 4 v, cellsRes true b2 32 [str e.name, int e.least, int e.most, ints e.suites, bool e.own, andIs v (slice 4 ((e.ids.take k).map rowId)), ints e.anchors, ints e.hashes, bool e.fall], cellsRes true b1 32 (([.string (ByteArray.mk #[]), .int .i64 0, .int .i64 0, .slice none 0 0, .bool false, .slice none 0 0, .slice none 0 0, .slice none 0 0, .bool false] : List Value).map is)])) (fun k : Nat => k ≤ (e.ids).length) (fun k : Nat => (e.ids).length - k) 0 (.slice none 0 0) (Nat.zero_le _) ⟨ke rfl, trivial⟩ (fun _ _ h => h) ?_)))
 rintro k v hle_k
 refine ac ?_
 refine Tr.seq ?_
 refine Tr.cn rfl ?_ ?_ <;> intro h1 q1
 have hk_k : k < (e.ids).length := lt_of_dec h1
 obtain ⟨x, hx_k⟩ := at_ hk_k
 have hxs := hsm.ids x (List.mem_of_getElem? hx_k)
 refine ac ?_
 refine Tr.seq (Tr.block (Tr.seq (Tr.regT (tp rfl (ok_indexAddr rfl Tryz.underlying30 sz27 (vl rfl) (vl rfl) (by omega) (by exact row_at (by assumption))) ?_))))
 refine tp rfl (ok_loadA rfl agg27 sz27 (vl rfl) rfl rfl) ?_
 refine TO.alloc rfl rfl (by decide) rfl z27 zo27 (fun b3 => ?_)
 refine sf 0 5 ⟨rfl, rfl, rfl⟩ rfl rfl rfl rfl ?_
 refine ao ?_
 refine Tr.pad (Tr.rx ?_)
 refine ax ?_
 refine xo rfl (fun _ => kc1 (w_R24CopyI hxs) rfl rfl) (xo rfl (fun _ => ok_buildSlice (xs := [.tmp 30]) (rows := [_]) rfl rfl Tryz.underlying30 sz27 z27 rfl (by decide) ⟨⟨(by exact rfl), (VL.le (vl rfl) (agg_cellsP _))⟩, trivial⟩ (by decide)) ?_)
 refine Cx.ef 1 rfl rfl (by decide) (ef_append rfl rfl (by decide) rfl Tryz.underlying30 sz27 by27 z27 rfl (by decide) ⟨_, rfl, andIs_le _ _⟩ ⟨_, rfl, full_le _ _⟩ (by simp only [List.length_map, List.length_append, List.length_cons, List.length_nil, List.length_take]; unfold maxLen; omega) (by simp only [List.length_map, List.length_append, List.length_cons, List.length_nil, List.length_take]; omega) (appR_is (by exact List.Mem.head _) ⟨_, rfl, andIs_is _ _⟩)) ?_
 refine xo rfl (fun _ => okp_fieldAddr rfl fo32_5 (vl rfl)) (Cx.ef0 2 rfl rfl (ef_storeS rfl rfl rfl (vl rfl) rfl sz30 (by exact Nat.le_of_ble_eq_true rfl)) ?_)
 refine Cx.nil ⟨by kernel_rfl, ?_⟩
 refine FinX.open2 1 2 32 rfl rfl (by decide) rfl (fun v1 => ?_)
 refine FinX.done al4 ?_
 refine ac ?_
 refine Tr.drop 0 (wk5 2 3 21 22 23 rfl ?_)
 refine ac ?_
 refine Fin.reC 1 [str e.name, int e.least, int e.most, ints e.suites, bool e.own, andIs v1 (slice 4 ((e.ids.take (k + 1)).map rowId)), ints e.anchors, ints e.hashes, bool e.fall] rfl ⟨Pr.le_refl _, Pr.le_refl _, Pr.le_refl _, Pr.le_refl _, Pr.le_refl _, own_le (take_snocM (f := rowId) hx_k), Pr.le_refl _, Pr.le_refl _, Pr.le_refl _, trivial⟩ (Fin.famV1 (k + 1) v1 (⟨hk_k, by omega⟩) ⟨⟨_, rfl, int_succ k⟩, ke rfl, ke rfl, ke rfl, ke rfl, trivial⟩ (fun _ _ h => h))
 have he_k : k = (e.ids).length := by have := ge_of_dec h1; omega
 subst he_k
 refine ac ?_
 refine ao ?_
 refine TO.store_all 2 rfl rfl rfl (vl rfl) (VL.le (vl rfl) (agg_cellsP _)) rfl sz32 rfl rfl ?_
 refine ao ?_
 refine Tr.ret (Fin.retX1 rfl (RVal.cell 2 rfl rfl agg32 sz32 rfl (Pr.le_refl _)) ?_)
 · exact agg_le ⟨Pr.le_refl _, Pr.le_refl _, Pr.le_refl _, Pr.le_refl _, Pr.le_refl _, Pr.le_trans (andIs_le _ _) (Pr.le_of_eq (by rw [List.take_length])), Pr.le_refl _, Pr.le_refl _, Pr.le_refl _, trivial⟩
theorem w_R24allowed {e : Ept} {c : Chg} (hsm : e.small) (hcs : c.idn.small) : Fun Tryz.prog 75 [agg (rowEp e), agg (rowChg c)] (int (alw e c)) := by
 refine fo Tryz.func75 rfl ⟨rfl, rfl⟩ fun M0 w0 => ?_
 refine ac ?_
 refine ac ?_
 refine co rfl (kc1 (w_R9Check hsm) rfl rfl) ?_
 refine ac ?_
 refine Tr.cn rfl ?_ ?_ <;> intro h1 q1
 refine ac ?_
 refine ac ?_
 · refine int_eq ?_; unfold alw; repeat (refine (if_pos ?_).symm; simp_all)
 refine ac ?_
 refine ac ?_
 refine co rfl (kc1 (w_R24form (c := c) hcs) rfl rfl) ?_
 refine ac ?_
 refine Tr.cn rfl ?_ ?_ <;> intro h2 q2
 refine ac ?_
 refine ac ?_
 · refine int_eq ?_; unfold alw; repeat (first | (refine (if_pos ?_).symm; omega) | (refine Eq.trans ?_ (if_neg ?_).symm; rotate_left; focus (simp_all; done)))
 refine ac ?_
 refine wk2 2 3 rfl (Tr.cutk [2, 3] [] (¬ (c.kind = 1 ∧ (c.at_ < 0 ∨ (e.suites.length : Int) < c.at_)) ∧ ¬ (c.kind = 5 ∧ (c.at_ < 0 ∨ (e.ids.length : Int) < c.at_)) ∧ ¬ ((c.kind = 11 ∨ c.kind = 12) ∧ (c.number ≠ 0 ∧ c.number ≠ 1))) ?_ (fun hrng => ?_))
 refine ac ?_
 refine ac ?_
 refine Tr.cn rfl ?_ ?_ <;> intro h4 q4
 refine ac ?_
 refine Ch.cs 27 rfl ?_ ?_ <;> intro h5 q5
 refine ac ?_
 refine wk3 2 3 34 rfl ?_
 refine ac ?_
 refine ac ?_
 · refine int_eq ?_; unfold alw; repeat (first | (refine (if_pos ?_).symm; omega) | (refine Eq.trans ?_ (if_neg ?_).symm; rotate_left; focus (simp_all; done)))
 refine ac ?_
 refine wk3 2 3 34 rfl ?_
 refine Tr.cn rfl ?_ ?_ <;> intro h6 q6
 refine ac ?_
 refine ac ?_
 · refine int_eq ?_; unfold alw; repeat (first | (refine (if_pos ?_).symm; omega) | (refine Eq.trans ?_ (if_neg ?_).symm; rotate_left; focus (simp_all; done)))
 refine Tr.skip (Fin.block (Fin.fam_same () (by omega) (kk2 rfl)))
 refine ac ?_
 refine Tr.cn rfl ?_ ?_ <;> intro h7 q7
 refine ac ?_
 refine Ch.cs 40 rfl ?_ ?_ <;> intro h8 q8
 refine ac ?_
 refine wk3 2 3 47 rfl ?_
 refine ac ?_
 refine ac ?_
 · refine int_eq ?_; unfold alw; repeat (first | (refine Eq.trans ?_ (if_neg ?_).symm; rotate_left; focus (omega)) | (refine (if_pos ?_).symm; omega) | (refine Eq.trans ?_ (if_neg ?_).symm; rotate_left; focus (simp_all; done)))
 refine ac ?_
 refine wk3 2 3 47 rfl ?_
 refine Tr.cn rfl ?_ ?_ <;> intro h9 q9
 refine ac ?_
 refine ac ?_
 · refine int_eq ?_; unfold alw; repeat (first | (refine Eq.trans ?_ (if_neg ?_).symm; rotate_left; focus (omega)) | (refine (if_pos ?_).symm; omega) | (refine Eq.trans ?_ (if_neg ?_).symm; rotate_left; focus (simp_all; done)))
 refine Tr.skip (Fin.block (Fin.fam_same () (by omega) (kk2 rfl)))
 refine ac ?_
 refine Tr.cn rfl ?_ ?_ <;> intro h10 q10
 refine ac ?_
 refine Tr.cond rfl (fun _ => ?_) (fun h => nomatch h10.symm.trans h)
 refine ac ?_
 refine Ch.cs 54 rfl ?_ ?_ <;> intro h11 q11
 refine ac ?_
 refine wk3 2 3 58 rfl ?_
 refine Tr.cn rfl ?_ ?_ <;> intro h12 q12
 refine ac ?_
 refine ac ?_
 · refine int_eq ?_; unfold alw; repeat (first | (refine Eq.trans ?_ (if_neg ?_).symm; rotate_left; focus (omega)) | (refine (if_pos ?_).symm; omega) | (refine Eq.trans ?_ (if_neg ?_).symm; rotate_left; focus (simp_all; done)))
 refine Tr.skip (Fin.block (Fin.fam_same () (by omega) (kk2 rfl)))
 refine ac ?_
 refine wk3 2 3 58 rfl (Tr.cond rfl (fun h => nomatch h) (fun _ => ?_))
 refine Tr.skip (Fin.block (Fin.fam_same () (by omega) (kk2 rfl)))
 refine ac ?_
 refine Tr.cn rfl ?_ ?_ <;> intro h13 q13
 refine ac ?_
 refine Ch.cs 54 rfl ?_ ?_ <;> intro h14 q14
 refine ac ?_
 refine wk3 2 3 58 rfl ?_
 refine Tr.cn rfl ?_ ?_ <;> intro h15 q15
 refine ac ?_
 refine ac ?_
 · refine int_eq ?_; unfold alw; repeat (first | (refine Eq.trans ?_ (if_neg ?_).symm; rotate_left; focus (omega)) | (refine (if_pos ?_).symm; omega) | (refine Eq.trans ?_ (if_neg ?_).symm; rotate_left; focus (simp_all; done)))
 refine Tr.skip (Fin.block (Fin.fam_same () (by omega) (kk2 rfl)))
 refine ac ?_
 refine wk3 2 3 58 rfl (Tr.cond rfl (fun h => nomatch h) (fun _ => ?_))
 refine Tr.skip (Fin.block (Fin.fam_same () (by omega) (kk2 rfl)))
 refine Tr.skip (Fin.block (Fin.fam_same () (by omega) (kk2 rfl)))
 refine wk2 2 3 rfl (Tr.cutk [2, 3] [] (¬ ((lstR e c.kind).2.2 = true ∧ decide (0 ≤ idx (fun y => c.number == y) (lstR e c.kind).1) = (lstR e c.kind).2.1)) ?_ (fun hlst => ?_))
 refine ac ?_
 refine co rfl (kc2 (w_R24listed) rfl rfl rfl) ?_
 refine ac ?_
 refine ac ?_
 refine Ch.cs 68 rfl ?_ ?_ <;> intro h17 q17
 refine ac ?_
 refine cy h17 rfl (kc2 (w_R24place) rfl rfl rfl) ?_
 refine ac ?_
 refine wk3 2 3 76 rfl ?_
 refine Tr.cn rfl ?_ ?_ <;> intro h18 q18
 refine ac ?_
 refine ac ?_
 · refine int_eq ?_; unfold alw; repeat (first | (refine Eq.trans ?_ (if_neg ?_).symm; rotate_left; focus (omega)) | (refine Eq.trans ?_ (if_neg ?_).symm; rotate_left; focus (simp_all; done)) | (refine (if_pos ?_).symm; simp_all; done))
 refine Tr.skip (Fin.fam_same () (by simp_all) (kk2 rfl))
 refine ac ?_
 refine wk3 2 3 76 rfl (Tr.cond rfl (fun h => nomatch h) (fun _ => ?_))
 refine Tr.skip (Fin.fam_same () (by simp_all) (kk2 rfl))
 refine wk2 2 3 rfl (Tr.cutk [2, 3] [] (¬ ((valR e c.kind).2 = true ∧ (valR e c.kind).1 = c.number)) ?_ (fun hval => ?_))
 refine ac ?_
 refine co rfl (kc2 (w_R24value) rfl rfl rfl) ?_
 refine ac ?_
 refine ac ?_
 refine Ch.cs 85 rfl ?_ ?_ <;> intro h20 q20
 refine ac ?_
 refine wk3 2 3 90 rfl ?_
 refine Tr.cn rfl ?_ ?_ <;> intro h21 q21
 refine ac ?_
 refine ac ?_
 · refine int_eq ?_; unfold alw; repeat (first | (refine Eq.trans ?_ (if_neg ?_).symm; rotate_left; focus (omega)) | (refine Eq.trans ?_ (if_neg ?_).symm; rotate_left; focus (simp_all; done)) | (refine (if_pos ?_).symm; simp_all; done))
 refine Tr.skip (Fin.fam_same () (by simp_all) (kk2 rfl))
 refine ac ?_
 refine wk3 2 3 90 rfl (Tr.cond rfl (fun h => nomatch h) (fun _ => ?_))
 refine Tr.skip (Fin.fam_same () (by simp_all) (kk2 rfl))
 refine wk2 2 3 rfl (Tr.cutk [2, 3] [] (¬ (c.kind = 5 ∧ 0 < cntK c.idn.keyId e.ids)) ?_ (fun hadd => ?_))
 refine ac ?_
 refine Tr.cn rfl ?_ ?_ <;> intro h23 q23
 refine ac ?_
 refine co rfl (kc2 (w_R24keys hsm.idl) rfl rfl rfl) ?_
 refine ac ?_
 refine wk3 2 3 10 rfl ?_
 refine ac ?_
 refine Tr.cn rfl ?_ ?_ <;> intro h24 q24
 refine ac ?_
 refine ac ?_
 · refine int_eq ?_; unfold alw; repeat (first | (refine Eq.trans ?_ (if_neg ?_).symm; rotate_left; focus (omega)) | (refine (if_pos ?_).symm; omega) | (refine Eq.trans ?_ (if_neg ?_).symm; rotate_left; focus (simp_all; done)))
 refine Tr.skip (Fin.fam_same () (by omega) (kk2 rfl))
 refine Tr.skip (Fin.fam_same () (by omega) (kk2 rfl))
 refine ac ?_
 refine Tr.cn rfl ?_ ?_ <;> intro h25 q25
 refine ac ?_
 refine co rfl (kc2 (w_R24keys hsm.idl) rfl rfl rfl) ?_
 refine ac ?_
 refine wk1 12 rfl ?_
 refine ac ?_
 refine Tr.cn rfl ?_ ?_ <;> intro h26 q26
 refine ac ?_
 refine ac ?_
 · refine int_eq ?_; unfold alw; repeat (first | (refine Eq.trans ?_ (if_neg ?_).symm; rotate_left; focus (omega)) | (refine (if_pos ?_).symm; omega) | (refine Eq.trans ?_ (if_neg ?_).symm; rotate_left; focus (simp_all; done)))
 refine ac ?_
 refine ac ?_
 refine Tr.cn rfl ?_ ?_ <;> intro h27 q27
 refine ac ?_
 refine ac ?_
 · refine int_eq ?_; unfold alw; repeat (first | (refine Eq.trans ?_ (if_neg ?_).symm; rotate_left; focus (omega)) | (refine (if_pos ?_).symm; omega) | (refine Eq.trans ?_ (if_neg ?_).symm; rotate_left; focus (simp_all; done)))
 refine ac ?_
 refine ac ?_
 refine ac ?_
 · refine int_eq ?_; unfold alw; repeat (first | rfl | (refine Eq.trans ?_ (if_neg ?_).symm; rotate_left; focus (omega)) | (refine Eq.trans ?_ (if_neg ?_).symm; rotate_left; focus (simp_all; done)))
 refine ac ?_
 refine ac ?_
 refine ac ?_
 · refine int_eq ?_; unfold alw; repeat (first | rfl | (refine Eq.trans ?_ (if_neg ?_).symm; rotate_left; focus (omega)) | (refine Eq.trans ?_ (if_neg ?_).symm; rotate_left; focus (simp_all; done)))
end Go.Proofs.YtppeeogffbpcbaaGreat
namespace Go.Proofs.YtppeeogffbpcbaaGreat
open Go Go.RowKit Cp
theorem ok_1 {e e2 : Ept} {c b : Chg} (h : c.kind = 1) (hs : stepR e c = .ok (e2, b)) : (0 ≤ c.at_ ∧ c.at_ ≤ (e.suites.length : Nat)) ∧ e2 = { e with suites := e.suites.take c.at_.toNat ++ [c.number] ++ e.suites.drop c.at_.toNat } ∧ b = ⟨c.endpoint, 2, c.number, 0, zeroId⟩ := by
  rw [stepR_1 h] at hs
  (repeat' (split at hs)) <;> first | (cases hs; done) | (injection hs with hs; injection hs with h1 h2; exact ⟨by omega, h1.symm, h2.symm⟩)
theorem ok_2 {e e2 : Ept} {c b : Chg} (h : c.kind = 2) (hs : stepR e c = .ok (e2, b)) : (0 ≤ sIdx e c) ∧ e2 = { e with suites := e.suites.eraseIdx (sIdx e c).toNat } ∧ b = ⟨c.endpoint, 1, c.number, sIdx e c, zeroId⟩ := by
  rw [stepR_2 h] at hs
  (repeat' (split at hs)) <;> first | (cases hs; done) | (injection hs with hs; injection hs with h1 h2; exact ⟨by omega, h1.symm, h2.symm⟩)
theorem ok_3 {e e2 : Ept} {c b : Chg} (h : c.kind = 3) (hs : stepR e c = .ok (e2, b)) : e2 = { e with most := c.number } ∧ b = ⟨c.endpoint, c.kind, e.most, 0, zeroId⟩ := by
  rw [stepR_3 h] at hs
  (repeat' (split at hs)) <;> first | (cases hs; done) | (injection hs with hs; injection hs with h1 h2; exact ⟨h1.symm, h2.symm⟩)
theorem ok_4 {e e2 : Ept} {c b : Chg} (h : c.kind = 4) (hs : stepR e c = .ok (e2, b)) : e2 = { e with least := c.number } ∧ b = ⟨c.endpoint, c.kind, e.least, 0, zeroId⟩ := by
  rw [stepR_4 h] at hs
  (repeat' (split at hs)) <;> first | (cases hs; done) | (injection hs with hs; injection hs with h1 h2; exact ⟨h1.symm, h2.symm⟩)
theorem ok_5 {e e2 : Ept} {c b : Chg} (h : c.kind = 5) (hs : stepR e c = .ok (e2, b)) : (0 ≤ c.at_ ∧ c.at_ ≤ (e.ids.length : Nat)) ∧ e2 = { e with ids := e.ids.take c.at_.toNat ++ [c.idn] ++ e.ids.drop c.at_.toNat } ∧ b = ⟨c.endpoint, 6, c.idn.keyId, 0, zeroId⟩ := by
  rw [stepR_5 h] at hs
  (repeat' (split at hs)) <;> first | (cases hs; done) | (injection hs with hs; injection hs with h1 h2; exact ⟨by omega, h1.symm, h2.symm⟩)
theorem ok_6 {e e2 : Ept} {c b : Chg} (h : c.kind = 6) (hs : stepR e c = .ok (e2, b)) : ∃ x, e.ids[(keyIdx c.number e.ids).toNat]? = some x ∧ 0 ≤ keyIdx c.number e.ids ∧ e2 = { e with ids := e.ids.eraseIdx (keyIdx c.number e.ids).toNat } ∧ b = ⟨c.endpoint, 5, 0, keyIdx c.number e.ids, x⟩ := by
  rw [stepR_6 h] at hs
  (repeat' (split at hs)) <;> first | (cases hs; done) | (injection hs with hs; injection hs with h1 h2; exact ⟨_, by assumption, by omega, h1.symm, h2.symm⟩)
theorem ok_7 {e e2 : Ept} {c b : Chg} (h : c.kind = 7) (hs : stepR e c = .ok (e2, b)) : hasX e.anchors c.number = false ∧ e2 = { e with anchors := insX e.anchors c.number } ∧ b = ⟨c.endpoint, 8, c.number, 0, zeroId⟩ := by
  rw [stepR_7 h] at hs
  (repeat' (split at hs)) <;> first | (cases hs; done) | (injection hs with hs; injection hs with h1 h2; exact ⟨by simp_all, h1.symm, h2.symm⟩)
theorem ok_8 {e e2 : Ept} {c b : Chg} (h : c.kind = 8) (hs : stepR e c = .ok (e2, b)) : hasX e.anchors c.number = true ∧ e2 = { e with anchors := e.anchors.eraseIdx (posI e.anchors c.number) } ∧ b = ⟨c.endpoint, 7, c.number, 0, zeroId⟩ := by
  rw [stepR_8 h] at hs
  (repeat' (split at hs)) <;> first | (cases hs; done) | (injection hs with hs; injection hs with h1 h2; exact ⟨by simp_all, h1.symm, h2.symm⟩)
theorem ok_9 {e e2 : Ept} {c b : Chg} (h : c.kind = 9) (hs : stepR e c = .ok (e2, b)) : hasX e.hashes c.number = false ∧ e2 = { e with hashes := insX e.hashes c.number } ∧ b = ⟨c.endpoint, 10, c.number, 0, zeroId⟩ := by
  rw [stepR_9 h] at hs
  (repeat' (split at hs)) <;> first | (cases hs; done) | (injection hs with hs; injection hs with h1 h2; exact ⟨by simp_all, h1.symm, h2.symm⟩)
theorem ok_10 {e e2 : Ept} {c b : Chg} (h : c.kind = 10) (hs : stepR e c = .ok (e2, b)) : hasX e.hashes c.number = true ∧ e2 = { e with hashes := e.hashes.eraseIdx (posI e.hashes c.number) } ∧ b = ⟨c.endpoint, 9, c.number, 0, zeroId⟩ := by
  rw [stepR_10 h] at hs
  (repeat' (split at hs)) <;> first | (cases hs; done) | (injection hs with hs; injection hs with h1 h2; exact ⟨by simp_all, h1.symm, h2.symm⟩)
theorem ok_11 {e e2 : Ept} {c b : Chg} (h : c.kind = 11) (hs : stepR e c = .ok (e2, b)) : e2 = { e with fall := (c.number == 1) } ∧ b = ⟨c.endpoint, c.kind, bitI e.fall, 0, zeroId⟩ := by
  rw [stepR_11 h] at hs
  (repeat' (split at hs)) <;> first | (cases hs; done) | (injection hs with hs; injection hs with h1 h2; exact ⟨h1.symm, h2.symm⟩)
theorem ok_12 {e e2 : Ept} {c b : Chg} (h : c.kind = 12) (hs : stepR e c = .ok (e2, b)) : e2 = { e with own := (c.number == 1) } ∧ b = ⟨c.endpoint, c.kind, bitI e.own, 0, zeroId⟩ := by
  rw [stepR_12 h] at hs
  (repeat' (split at hs)) <;> first | (cases hs; done) | (injection hs with hs; injection hs with h1 h2; exact ⟨h1.symm, h2.symm⟩)

theorem sIdx_lt {e : Ept} {c : Chg} (h : 0 ≤ sIdx e c) : (sIdx e c).toNat < e.suites.length := by obtain ⟨_, _, _, h3⟩ := idx_hit (p := fun y => c.number == y) (l := e.suites) h; exact h3
theorem w_R24made {e e2 : Ept} {c b : Chg} (hsm : e.small) (hcs : c.idn.small) (hce : eptB e = true) (hc : okCh c) (hs : stepR e c = .ok (e2, b)) : Fun Tryz.prog 76 [agg (rowEp e), agg (rowChg c)] (agg (rowEp e2)) := by
 refine fo Tryz.func76 rfl ⟨rfl, rfl⟩ fun M0 w0 => ?_
 have hk := hc.1
 have ok := eptB_iff.1 hce
 have hs1 := hsm.suites
 have hs2 := hsm.anchors
 have hs3 := hsm.hashes
 have hs4 := hsm.idl
 refine Tr.seq (Tr.regT (tp rfl (ok_box rfl (VL.le (vl rfl) (agg_cellsP _))) (tp rfl (ok_box rfl (VL.le (vl rfl) (agg_cellsP _))) ?_)))
 refine TO.alloc rfl rfl (by decide) rfl z32 zo32 (fun b1 => ?_)
 refine ap ?_
 refine ap ?_
 refine tp rfl (kc1 (w_R24Copy hsm) rfl rfl) ?_
 refine TO.alloc rfl rfl (by decide) rfl z32 zo32 (fun b2 => ?_)
 refine ap ?_
 refine ac ?_
 refine ac ?_
 refine Tr.cn rfl ?_ ?_ <;> intro h1 q1
 obtain ⟨hr, rfl, rfl⟩ := ok_1 q1 hs
 refine ap ?_
 refine tp rfl (ok_call rfl (w_R24with (l := e.suites) (i := c.at_.toNat) (by omega) hs1) ⟨ke rfl, ⟨_, rfl, int_eq (by omega)⟩, ke rfl, trivial⟩) ?_
 refine ap ?_
 refine wk2 4 5 rfl ?_
 refine ap ?_
 refine Tr.drop 0 (Tr.ret (Fin.retX1 rfl (RVal.cell 0 rfl rfl agg32 sz32 rfl (Pr.le_refl _)) ?_))
 · exact Pr.le_refl _
 refine ac ?_
 refine wk6 2 3 4 5 13 24 rfl ?_
 refine Tr.cn rfl ?_ ?_ <;> intro h2 q2
 obtain ⟨hr, rfl, rfl⟩ := ok_2 q2 hs
 refine Tr.rx ?_
 refine ay ?_
 refine xo rfl (fun _ => kc2 (w_R24place) rfl rfl rfl) ?_
 refine xo rfl (fun _ => ok_call rfl (w_R24without (l := e.suites) (i := (sIdx e c).toNat) (sIdx_lt hr) hs1) ⟨ke rfl, ⟨_, rfl, int_eq (show sIdx e c = _ by omega)⟩, trivial⟩) ?_
 refine ay ?_
 refine Cx.nil ⟨by kernel_rfl, ?_⟩
 refine FinX.done al2 ?_
 refine ac ?_
 refine wk2 4 5 rfl ?_
 refine ap ?_
 refine Tr.drop 0 (Tr.ret (Fin.retX1 rfl (RVal.cell 0 rfl rfl agg32 sz32 rfl (Pr.le_refl _)) ?_))
 · exact Pr.le_refl _
 refine ac ?_
 refine Tr.cn rfl ?_ ?_ <;> intro h3 q3
 obtain ⟨rfl, rfl⟩ := ok_3 q3 hs
 refine ap ?_
 refine ap ?_
 refine Tr.drop 0 (Tr.ret (Fin.retX1 rfl (RVal.cell 0 rfl rfl agg32 sz32 rfl (Pr.le_refl _)) ?_))
 · exact Pr.le_refl _
 refine ac ?_
 refine Tr.cn rfl ?_ ?_ <;> intro h4 q4
 obtain ⟨rfl, rfl⟩ := ok_4 q4 hs
 refine ap ?_
 refine ap ?_
 refine Tr.drop 0 (wk1 4 rfl (Tr.ret (Fin.retX1 rfl (RVal.cell 0 rfl rfl agg32 sz32 rfl (Pr.le_refl _)) ?_)))
 · exact Pr.le_refl _
 refine ac ?_
 refine Tr.cn rfl ?_ ?_ <;> intro h5 q5
 obtain ⟨hr, rfl, rfl⟩ := ok_5 q5 hs
 refine ap ?_
 refine tp rfl (ok_sliceTo rfl Tryz.underlying30 sz27 (vl rfl) (vl rfl) (by omega) (by simp; omega)) ?_
 refine TO.pad ?_
 refine TO.efs 0 rfl rfl (by decide) (ef_append rfl rfl (by decide) rfl Tryz.underlying30 sz27 by27 z27 rfl (by decide) ⟨_, rfl, nil_slice _⟩ (vl rfl) (by simp only [List.length_map, List.length_append, List.length_cons, List.length_nil, List.length_take, List.length_drop]; unfold maxLen; omega) (by simp only [List.length_map, List.length_append, List.length_cons, List.length_nil, List.length_take, List.length_drop]; omega) (appR_full (by exact List.Mem.head _) ⟨_, rfl, nil_full 1⟩)) (fun v1 => ?_)
 refine ap ?_
 refine wk4 3 4 5 6 rfl ?_
 refine ap ?_
 refine tp rfl (kc1 (w_R24CopyI hcs) rfl rfl) (tp rfl (ok_buildSlice (xs := [.tmp 56]) (rows := [_]) rfl rfl Tryz.underlying30 sz27 z27 rfl (by decide) ⟨⟨(by exact rfl), (VL.le (vl rfl) (agg_cellsP _))⟩, trivial⟩ (by decide)) ?_)
 refine TO.efs 0 rfl rfl (by decide) (ef_append rfl rfl (by decide) rfl Tryz.underlying30 sz27 by27 z27 rfl (by decide) ⟨_, rfl, andIs_le _ _⟩ ⟨_, rfl, full_le _ _⟩ (by simp only [List.length_map, List.length_append, List.length_cons, List.length_nil, List.length_take, List.length_drop]; unfold maxLen; omega) (by simp only [List.length_map, List.length_append, List.length_cons, List.length_nil, List.length_take, List.length_drop]; omega) (appR_is (by exact List.Mem.head _) ⟨_, rfl, andIs_is _ _⟩)) (fun v2 => ?_)
 refine ap ?_
 refine ap ?_
 refine tp rfl (ok_sliceFrom rfl Tryz.underlying30 sz27 (vl rfl) (vl rfl) (by omega) (by simp; omega)) ?_
 refine TO.efs 0 rfl rfl (by decide) (ef_append rfl rfl (by decide) rfl Tryz.underlying30 sz27 by27 z27 rfl (by decide) ⟨_, rfl, andIs_le _ _⟩ (vl rfl) (by simp only [List.length_map, List.length_append, List.length_cons, List.length_nil, List.length_take, List.length_drop]; unfold maxLen; omega) (by simp only [List.length_map, List.length_append, List.length_cons, List.length_nil, List.length_take, List.length_drop]; omega) (appR_is (by exact List.Mem.head _) ⟨_, rfl, andIs_is _ _⟩)) (fun v3 => ?_)
 refine ap ?_
 refine wk2 4 5 rfl ?_
 refine ap ?_
 refine Tr.drop 1 (Tr.ret (Fin.retX1 rfl (RVal.cell 1 rfl rfl agg32 sz32 rfl (Pr.le_refl _)) ?_))
 · exact agg_le ⟨Pr.le_refl _, Pr.le_refl _, Pr.le_refl _, Pr.le_refl _, Pr.le_refl _, Pr.le_trans (andIs_le _ _) (Pr.le_of_eq (by show _ = slice 4 ((e.ids.take c.at_.toNat ++ [c.idn] ++ e.ids.drop c.at_.toNat).map rowId); simp [List.map_take, List.map_drop])), Pr.le_refl _, Pr.le_refl _, Pr.le_refl _, trivial⟩
 refine ac ?_
 refine wk6 2 3 4 5 13 67 rfl ?_
 refine Tr.cn rfl ?_ ?_ <;> intro h6 q6
 obtain ⟨x_, hx_, hr, rfl, rfl⟩ := ok_6 q6 hs
 have hlt := lt_of_at hx_
 refine ac ?_
 refine co rfl (kc2 (w_R24keys hs4) rfl rfl rfl) ?_
 refine ac ?_
 refine wk3 4 5 8 rfl ?_
 refine ap ?_
 refine tp rfl (ok_sliceTo rfl Tryz.underlying30 sz27 (vl rfl) (vl rfl) (by omega) (by simp; omega)) ?_
 refine TO.pad ?_
 refine TO.efs 0 rfl rfl (by decide) (ef_append rfl rfl (by decide) rfl Tryz.underlying30 sz27 by27 z27 rfl (by decide) ⟨_, rfl, nil_slice _⟩ (vl rfl) (by simp only [List.length_map, List.length_append, List.length_cons, List.length_nil, List.length_take, List.length_drop]; unfold maxLen; omega) (by simp only [List.length_map, List.length_append, List.length_cons, List.length_nil, List.length_take, List.length_drop]; omega) (appR_full (by exact List.Mem.head _) ⟨_, rfl, nil_full 1⟩)) (fun v4 => ?_)
 refine ap ?_
 refine ap ?_
 refine tp rfl (ok_sliceFrom rfl Tryz.underlying30 sz27 (vl rfl) (vl rfl) (by omega) (by simp; omega)) ?_
 refine TO.efs 0 rfl rfl (by decide) (ef_append rfl rfl (by decide) rfl Tryz.underlying30 sz27 by27 z27 rfl (by decide) ⟨_, rfl, andIs_le _ _⟩ (vl rfl) (by simp only [List.length_map, List.length_append, List.length_cons, List.length_nil, List.length_take, List.length_drop]; unfold maxLen; omega) (by simp only [List.length_map, List.length_append, List.length_cons, List.length_nil, List.length_take, List.length_drop]; omega) (appR_is (by exact List.Mem.head _) ⟨_, rfl, andIs_is _ _⟩)) (fun v5 => ?_)
 refine ap ?_
 refine wk2 4 5 rfl ?_
 refine ap ?_
 refine Tr.drop 1 (Tr.ret (Fin.retX1 rfl (RVal.cell 1 rfl rfl agg32 sz32 rfl (Pr.le_refl _)) ?_))
 · exact agg_le ⟨Pr.le_refl _, Pr.le_refl _, Pr.le_refl _, Pr.le_refl _, Pr.le_refl _, Pr.le_trans (andIs_le _ _) (Pr.le_of_eq (by show _ = slice 4 ((e.ids.eraseIdx (keyIdx c.number e.ids).toNat).map rowId); rw [List.eraseIdx_eq_take_drop_succ, show (keyIdx c.number e.ids + 1).toNat = (keyIdx c.number e.ids).toNat + 1 by omega]; simp [List.map_take, List.map_drop])), Pr.le_refl _, Pr.le_refl _, Pr.le_refl _, trivial⟩
 refine ac ?_
 refine Tr.cn rfl ?_ ?_ <;> intro h7 q7
 obtain ⟨hr, rfl, rfl⟩ := ok_7 q7 hs
 refine ap ?_
 refine tp rfl (kc2 (w_R24sorted hs2) rfl rfl rfl) ?_
 refine ap ?_
 refine wk2 4 5 rfl ?_
 refine ap ?_
 refine Tr.drop 0 (Tr.ret (Fin.retX1 rfl (RVal.cell 0 rfl rfl agg32 sz32 rfl (Pr.le_refl _)) ?_))
 · exact Pr.le_refl _
 refine ac ?_
 refine Tr.cn rfl ?_ ?_ <;> intro h8 q8
 obtain ⟨hr, rfl, rfl⟩ := ok_8 q8 hs
 refine Tr.rx ?_
 refine ay ?_
 refine xo rfl (fun _ => kc2 (w_R24place) rfl rfl rfl) ?_
 refine xo rfl (fun _ => ok_call rfl (w_R24without (l := e.anchors) (i := posI e.anchors c.number) (hasX_lt hr) hs2) ⟨ke rfl, ⟨_, rfl, int_eq (by rw [idx_has (ascI_of ok.anc), if_pos hr])⟩, trivial⟩) ?_
 refine ay ?_
 refine Cx.nil ⟨by kernel_rfl, ?_⟩
 refine FinX.done al2 ?_
 refine ac ?_
 refine wk2 4 5 rfl ?_
 refine ap ?_
 refine Tr.drop 0 (Tr.ret (Fin.retX1 rfl (RVal.cell 0 rfl rfl agg32 sz32 rfl (Pr.le_refl _)) ?_))
 · exact Pr.le_refl _
 refine ac ?_
 refine Tr.cn rfl ?_ ?_ <;> intro h9 q9
 obtain ⟨hr, rfl, rfl⟩ := ok_9 q9 hs
 refine ap ?_
 refine tp rfl (kc2 (w_R24sorted hs3) rfl rfl rfl) ?_
 refine ap ?_
 refine wk2 4 5 rfl ?_
 refine ap ?_
 refine Tr.drop 0 (Tr.ret (Fin.retX1 rfl (RVal.cell 0 rfl rfl agg32 sz32 rfl (Pr.le_refl _)) ?_))
 · exact Pr.le_refl _
 refine ac ?_
 refine wk6 2 3 4 5 13 116 rfl ?_
 refine Tr.cn rfl ?_ ?_ <;> intro h10 q10
 obtain ⟨hr, rfl, rfl⟩ := ok_10 q10 hs
 refine Tr.rx ?_
 refine ay ?_
 refine xo rfl (fun _ => kc2 (w_R24place) rfl rfl rfl) ?_
 refine xo rfl (fun _ => ok_call rfl (w_R24without (l := e.hashes) (i := posI e.hashes c.number) (hasX_lt hr) hs3) ⟨ke rfl, ⟨_, rfl, int_eq (by rw [idx_has (ascI_of ok.hash), if_pos hr])⟩, trivial⟩) ?_
 refine ay ?_
 refine Cx.nil ⟨by kernel_rfl, ?_⟩
 refine FinX.done al2 ?_
 refine ac ?_
 refine wk2 4 5 rfl ?_
 refine ap ?_
 refine Tr.drop 0 (Tr.ret (Fin.retX1 rfl (RVal.cell 0 rfl rfl agg32 sz32 rfl (Pr.le_refl _)) ?_))
 · exact Pr.le_refl _
 refine ac ?_
 refine Tr.cn rfl ?_ ?_ <;> intro h11 q11
 obtain ⟨rfl, rfl⟩ := ok_11 q11 hs
 refine ap ?_
 refine ap ?_
 refine Tr.drop 0 (Tr.ret (Fin.retX1 rfl (RVal.cell 0 rfl rfl agg32 sz32 rfl (Pr.le_refl _)) ?_))
 · exact Pr.le_refl _
 refine ac ?_
 refine Tr.cn rfl ?_ ?_ <;> intro h12 q12
 obtain ⟨rfl, rfl⟩ := ok_12 q12 hs
 refine ap ?_
 refine wk2 4 5 rfl ?_
 refine ap ?_
 refine Tr.drop 0 (Tr.ret (Fin.retX1 rfl (RVal.cell 0 rfl rfl agg32 sz32 rfl (Pr.le_refl _)) ?_))
 · exact Pr.le_refl _
 exfalso; omega
theorem w_R24Apply {e : Ept} {c : Chg} {n : Nat} (hz : e.sz n) (hn : n ≤ 900000) (hi : c.idn.fits ∧ c.idn.small) : Fun Tryz.prog 19 [agg (rowEp e), agg (rowChg c)] (tup [agg (rowEp (doneR e c).1), int (doneR e c).2.2]) := by
 refine fo Tryz.func19 rfl ⟨rfl, rfl⟩ fun M0 w0 => ?_
 have hsm := hz.small (by omega)
 have hcs := hi.2
 refine Tr.seq (Tr.regT (tp rfl (ok_box rfl (VL.le (vl rfl) (agg_cellsP _))) (tp rfl (ok_box rfl (VL.le (vl rfl) (agg_cellsP _))) ?_)))
 refine TO.alloc rfl rfl (by decide) rfl z32 zo32 (fun b1 => ?_)
 refine ao ?_
 refine ac ?_
 refine co rfl (kc2 (w_R24allowed hsm hcs) rfl rfl rfl) ?_
 refine ac ?_
 refine ac ?_
 refine Tr.cn rfl ?_ ?_ <;> intro h1 q1
 have hb := alw_bad q1
 refine ao ?_
 refine TO.store_all 0 rfl rfl rfl (vl rfl) (VL.le (vl rfl) (agg_cellsP _)) rfl sz32 rfl rfl ?_
 refine ao ?_
 refine wk2 4 5 rfl (Tr.ret (Fin.then_ret (Fin.retX2 rfl (RVal.cell 0 rfl rfl agg32 sz32 rfl (Pr.le_refl _)) (RVal.tmp rfl (Pr.le_refl _)) ?_)))
 refine tup_le ⟨?_, ?_, trivial⟩
 · rw [hb]; exact agg_le ⟨Pr.le_refl _, Pr.le_refl _, Pr.le_refl _, nil_slice 1, Pr.le_refl _, nil_slice 4, nil_slice 1, nil_slice 1, Pr.le_refl _, trivial⟩
 · exact int_eq (by rw [hb])
 obtain ⟨hce, hc, e2, b, hs⟩ := alw_ok (e := e) (c := c) (by have := q1; omega)
 have hsm2 := (sz_step hc hs hz hi).1.small (by omega)
 refine ac ?_
 refine ao ?_
 refine tp rfl (kc2 (w_R24made hsm hcs hce hc hs) rfl rfl rfl) ?_
 refine TO.alloc rfl rfl (by decide) rfl z32 zo32 (fun b2 => ?_)
 refine sf 0 7 ⟨rfl, rfl, rfl⟩ rfl rfl rfl rfl ?_
 refine ao ?_
 refine wk2 4 7 rfl ?_
 refine ac ?_
 refine co rfl (kc1 (w_R9Check hsm2) rfl rfl) ?_
 refine ac ?_
 refine Tr.cn rfl ?_ ?_ <;> intro h2 q2
 have hb := doneR_v hce hc hs (by have := q2; cases h_ : eptB e2 <;> simp_all)
 refine ao ?_
 refine TO.store_all 0 rfl rfl rfl (vl rfl) (VL.le (vl rfl) (agg_cellsP _)) rfl sz32 rfl rfl ?_
 refine ao ?_
 refine Tr.ret (Fin.then_ret (Fin.retX2 rfl (RVal.cell 0 rfl rfl agg32 sz32 rfl (Pr.le_refl _)) (RVal.tmp rfl (Pr.le_refl _)) ?_))
 refine tup_le ⟨?_, ?_, trivial⟩
 · rw [hb]; exact agg_le ⟨Pr.le_refl _, Pr.le_refl _, Pr.le_refl _, nil_slice 1, Pr.le_refl _, nil_slice 4, nil_slice 1, nil_slice 1, Pr.le_refl _, trivial⟩
 · exact int_eq (by rw [hb])
 have hb := doneR_ok hce hc hs (by have := q2; cases h_ : eptB e2 <;> simp_all)
 refine ac ?_
 refine ao ?_
 refine TO.store_all 0 rfl rfl rfl (vl rfl) (VL.le (vl rfl) (agg_cellsP _)) rfl sz32 rfl rfl ?_
 refine ao ?_
 refine Tr.ret (Fin.retX2 rfl (RVal.cell 0 rfl rfl agg32 sz32 rfl (Pr.le_refl _)) (RVal.tmp rfl (Pr.le_refl _)) ?_)
 refine tup_le ⟨?_, ?_, trivial⟩
 · rw [hb]; exact Pr.le_refl _
 · exact int_eq (by rw [hb])
end Go.Proofs.YtppeeogffbpcbaaGreat
namespace Go.Proofs.YtppeeogffbpcbaaGreat
open Go Go.RowKit Cp
theorem w_SEqI {a b : List (Int)}  : Fun Tryz.prog 138 [ints a, ints b] (bool (decide (a = b))) := by
 refine fo Tryz.func138 rfl ⟨rfl, rfl⟩ fun M0 w0 => (Tr.lenm 0 rfl fun hlm_0 => (Tr.lenm 1 rfl fun hlm_1 => ?_))
 refine ac ?_
 refine ac ?_
 refine Tr.cn rfl ?_ ?_ <;> intro h1 q1
 have hne : ¬ a.length = b.length := by simp_all; omega
 refine ac ?_
 refine ac ?_
 · refine bool_eq ?_; symm; rw [decide_eq_false_iff_not]; rintro rfl; exact hne rfl
 have hll : a.length = b.length := by simp_all; omega
 refine ac ?_
 refine ac ?_
 refine Tr.block (Tr.loopw [(0, _), (1, _), (12, _)] (kk3 rfl) (fun k : Nat => [(13, int ((k : Nat) : Int))]) (fun k : Nat => k ≤ (a).length ∧ (a.take k = b.take k)) (fun k : Nat => (a).length - k) 0 (⟨Nat.zero_le _, rfl⟩) ⟨ke rfl, trivial⟩ ?_)
 rintro k ⟨hle_k, hinv_k⟩
 refine ac ?_
 refine Tr.seq ?_
 refine Tr.cn rfl ?_ ?_ <;> intro h2 q2
 have hk_k : k < (a).length := lt_of_dec h2
 obtain ⟨x, hx_k⟩ := at_ hk_k
 obtain ⟨y, hy⟩ := at_ (l := b) (k := k) (by omega)
 refine ac ?_
 refine ac ?_
 refine ac ?_
 refine co rfl (ok_indexAddr rfl Tryz.underlying22 sz3 (vl rfl) (vl rfl) (by omega) (row_at hx_k)) ?_
 refine ac ?_
 refine co rfl (ok_indexAddr rfl Tryz.underlying22 sz3 (vl rfl) (vl rfl) (by omega) (row_at hy)) ?_
 refine ac ?_
 refine wk5 0 1 12 13 24 rfl ?_
 refine Tr.cn rfl ?_ ?_ <;> intro h3 q3
 refine ac ?_
 refine ac ?_
 · refine bool_eq ?_; symm; rw [decide_eq_false_iff_not]; refine sameN hx_k hy ?_; rintro rfl; simp_all
 refine ac ?_
 refine ac ?_
 exact Fin.fam_same (k + 1) ⟨⟨hk_k, sameY hx_k hy hinv_k (by simp_all)⟩, by omega⟩ ⟨⟨_, rfl, int_succ k⟩, ke rfl, ke rfl, ke rfl, trivial⟩
 have he_k : k = (a).length := by have := ge_of_dec h2; omega
 subst he_k
 refine ac ?_
 refine ac ?_
 refine ac ?_
 · refine bool_eq ?_; symm; rw [decide_eq_true_eq]; exact sameA hll hinv_k
theorem w_SEqT {a b : List (List UInt8)}  : Fun Tryz.prog 131 [txts a, txts b] (bool (decide (a = b))) := by
 refine fo Tryz.func131 rfl ⟨rfl, rfl⟩ fun M0 w0 => (Tr.lenm 0 rfl fun hlm_0 => (Tr.lenm 1 rfl fun hlm_1 => ?_))
 refine ac ?_
 refine ac ?_
 refine Tr.cn rfl ?_ ?_ <;> intro h1 q1
 have hne : ¬ a.length = b.length := by simp_all; omega
 refine ac ?_
 refine ac ?_
 · refine bool_eq ?_; symm; rw [decide_eq_false_iff_not]; rintro rfl; exact hne rfl
 have hll : a.length = b.length := by simp_all; omega
 refine ac ?_
 refine ac ?_
 refine Tr.block (Tr.loopw [(0, _), (1, _), (12, _)] (kk3 rfl) (fun k : Nat => [(13, int ((k : Nat) : Int))]) (fun k : Nat => k ≤ (a).length ∧ (a.take k = b.take k)) (fun k : Nat => (a).length - k) 0 (⟨Nat.zero_le _, rfl⟩) ⟨ke rfl, trivial⟩ ?_)
 rintro k ⟨hle_k, hinv_k⟩
 refine ac ?_
 refine Tr.seq ?_
 refine Tr.cn rfl ?_ ?_ <;> intro h2 q2
 have hk_k : k < (a).length := lt_of_dec h2
 obtain ⟨x, hx_k⟩ := at_ hk_k
 obtain ⟨y, hy⟩ := at_ (l := b) (k := k) (by omega)
 refine ac ?_
 refine ac ?_
 refine ac ?_
 refine co rfl (ok_indexAddr rfl Tryz.underlying74 sz9 (vl rfl) (vl rfl) (by omega) (row_at hx_k)) ?_
 refine ac ?_
 refine co rfl (ok_indexAddr rfl Tryz.underlying74 sz9 (vl rfl) (vl rfl) (by omega) (row_at hy)) ?_
 refine ac ?_
 refine wk5 0 1 12 13 24 rfl ?_
 refine Tr.cn rfl ?_ ?_ <;> intro h3 q3
 refine ac ?_
 refine ac ?_
 · refine bool_eq ?_; symm; rw [decide_eq_false_iff_not]; refine sameN hx_k hy ?_; rintro rfl; simp_all
 refine ac ?_
 refine ac ?_
 exact Fin.fam_same (k + 1) ⟨⟨hk_k, sameY hx_k hy hinv_k (by simp_all)⟩, by omega⟩ ⟨⟨_, rfl, int_succ k⟩, ke rfl, ke rfl, ke rfl, trivial⟩
 have he_k : k = (a).length := by have := ge_of_dec h2; omega
 subst he_k
 refine ac ?_
 refine ac ?_
 refine ac ?_
 · refine bool_eq ?_; symm; rw [decide_eq_true_eq]; exact sameA hll hinv_k
abbrev epts (l : List Ept) : Pr := slice 9 (l.map rowEp)

theorem w_CSame {a b : Crt}  : Fun Tryz.prog 137 [agg (rowCr a), agg (rowCr b)] (bool (decide (a = b))) := by
 refine fo Tryz.func137 rfl ⟨rfl, rfl⟩ fun M0 w0 => ?_
 refine ac ?_
 refine wk2 2 3 rfl (Tr.cutk [2, 3] [(5, bool (decide (a.serial = b.serial ∧ a.issuer = b.issuer ∧ a.subject = b.subject ∧ a.names = b.names)))] (True) ?_ (fun h1 => ?_))
 refine ac ?_
 refine Ch.cs 12 rfl ?_ ?_ <;> intro h2 q2
 refine ac ?_
 refine Ch.cs 19 rfl ?_ ?_ <;> intro h3 q3
 refine ac ?_
 refine Ch.cs 26 rfl ?_ ?_ <;> intro h4 q4
 refine ac ?_
 refine cy h4 rfl (kc2 (w_SEqT) rfl rfl rfl) ?_
 refine ac ?_
 exact Fin.fam_same () (by simp_all) ⟨⟨_, rfl, bool_eq (by simp_all)⟩, ke rfl, ke rfl, trivial⟩
 refine ac ?_
 exact Fin.fam_same () (by simp_all) ⟨⟨_, rfl, bool_eq (by simp_all)⟩, ke rfl, ke rfl, trivial⟩
 refine ac ?_
 exact Fin.fam_same () (by simp_all) ⟨⟨_, rfl, bool_eq (by simp_all)⟩, ke rfl, ke rfl, trivial⟩
 refine ac ?_
 exact Fin.fam_same () (by simp_all) ⟨⟨_, rfl, bool_eq (by simp_all)⟩, ke rfl, ke rfl, trivial⟩
 refine wk3 2 3 5 rfl (Tr.cutk [2, 3, 5] [(6, bool (decide (a.kalg = b.kalg ∧ a.kbits = b.kbits ∧ a.keyId = b.keyId ∧ a.halg = b.halg ∧ a.hbits = b.hbits ∧ a.skey = b.skey ∧ a.ssum = b.ssum)))] (True) ?_ (fun h5 => ?_))
 refine ac ?_
 refine co rfl (ok_eq24 rfl (vl rfl) (vl rfl)) (cm rfl ?_)
 refine Ch.cs 38 rfl ?_ ?_ <;> intro h6 q6
 refine ac ?_
 refine Ch.cs 45 rfl ?_ ?_ <;> intro h7 q7
 refine ac ?_
 refine cy h7 rfl (ok_eq24 rfl (vl rfl) (vl rfl)) ?_
 refine ac ?_
 refine Ch.cs 52 rfl ?_ ?_ <;> intro h8 q8
 refine ac ?_
 refine cy h8 rfl (ok_eq129 rfl (vl rfl) (vl rfl)) ?_
 refine ac ?_
 exact Fin.fam_same () (by simp_all) ⟨⟨_, rfl, bool_eq (by simp_all)⟩, ke rfl, ke rfl, ke rfl, trivial⟩
 refine ac ?_
 exact Fin.fam_same () (by simp_all) ⟨⟨_, rfl, bool_eq (by simp_all)⟩, ke rfl, ke rfl, ke rfl, trivial⟩
 refine ac ?_
 exact Fin.fam_same () (by simp_all) ⟨⟨_, rfl, bool_eq (by simp_all)⟩, ke rfl, ke rfl, ke rfl, trivial⟩
 refine ac ?_
 exact Fin.fam_same () (by simp_all) ⟨⟨_, rfl, bool_eq (by simp_all)⟩, ke rfl, ke rfl, ke rfl, trivial⟩
 refine ac ?_
 refine Ch.cs 60 rfl ?_ ?_ <;> intro h9 q9
 refine ac ?_
 refine Ch.cs 63 rfl ?_ ?_ <;> intro h10 q10
 refine ac ?_
 refine Ch.cs 70 rfl ?_ ?_ <;> intro h11 q11
 refine ac ?_
 refine Ch.cs 77 rfl ?_ ?_ <;> intro h12 q12
 refine ac ?_
 refine Ch.cs 84 rfl ?_ ?_ <;> intro h13 q13
 refine ac ?_
 refine wk1 4 rfl ?_
 refine ac ?_
 · refine bool_eq ?_; cases a; cases b; simp_all [Bool.beq_eq_decide_eq]
 refine ac ?_
 refine wk1 4 rfl ?_
 refine ac ?_
 · refine bool_eq ?_; cases a; cases b; simp_all [Bool.beq_eq_decide_eq]
 refine ac ?_
 refine wk1 4 rfl ?_
 refine ac ?_
 · refine bool_eq ?_; cases a; cases b; simp_all [Bool.beq_eq_decide_eq]
 refine ac ?_
 refine wk1 4 rfl ?_
 refine ac ?_
 · refine bool_eq ?_; cases a; cases b; simp_all [Bool.beq_eq_decide_eq]
 refine ac ?_
 refine wk1 4 rfl ?_
 refine ac ?_
 · refine bool_eq ?_; cases a; cases b; simp_all [Bool.beq_eq_decide_eq]
 refine ac ?_
 refine wk1 4 rfl ?_
 refine ac ?_
 · refine bool_eq ?_; cases a; cases b; simp_all [Bool.beq_eq_decide_eq]
theorem e_CSame : Entry Tryz.prog 137 := ⟨_, Tryz.func137, rfl, rfl⟩
theorem w_EqFC {a b : List Crt}  : Fun Tryz.prog 85 [certs a, certs b, clo Tryz.prog (fun p : Crt × Crt => [agg (rowCr p.1), agg (rowCr p.2)]) (fun p => bool (decide (p.1 = p.2)))] (bool (decide (a = b))) := by
 refine fo Tryz.func85 rfl ⟨rfl, rfl⟩ fun M0 w0 => (Tr.lenm 0 rfl fun hlm_0 => (Tr.lenm 1 rfl fun hlm_1 => ?_))
 refine ac ?_
 refine ac ?_
 refine Tr.cn rfl ?_ ?_ <;> intro h1 q1
 have hne : ¬ a.length = b.length := by simp_all; omega
 refine ac ?_
 refine ac ?_
 · refine bool_eq ?_; symm; rw [decide_eq_false_iff_not]; rintro rfl; exact hne rfl
 have hll : a.length = b.length := by simp_all; omega
 refine ac ?_
 refine ac ?_
 refine Tr.block (Tr.loopw [(1, _), (2, _), (15, _), (16, _)] (kk4 rfl) (fun k : Nat => [(17, int ((k : Nat) : Int))]) (fun k : Nat => k ≤ (a).length ∧ (a.take k = b.take k)) (fun k : Nat => (a).length - k) 0 (⟨Nat.zero_le _, rfl⟩) ⟨ke rfl, trivial⟩ ?_)
 rintro k ⟨hle_k, hinv_k⟩
 refine ac ?_
 refine Tr.seq ?_
 refine Tr.cn rfl ?_ ?_ <;> intro h2 q2
 have hk_k : k < (a).length := lt_of_dec h2
 obtain ⟨x, hx_k⟩ := at_ hk_k
 obtain ⟨y, hy⟩ := at_ (l := b) (k := k) (by omega)
 refine ac ?_
 refine ao ?_
 refine tp rfl (ok_indexAddr rfl Tryz.underlying25 sz131 (vl rfl) (vl rfl) (by omega) (row_at hx_k)) (tp rfl (ok_loadA rfl agg131 sz131 (vl rfl) rfl rfl) ?_)
 refine TO.alloc rfl rfl (by decide) rfl z131 zo131 (fun b1 => ?_)
 refine tm rfl ?_
 refine sf 0 8 ⟨rfl, rfl, rfl⟩ rfl rfl rfl rfl ?_
 refine ao ?_
 refine ao ?_
 refine tp rfl (ok_indexAddr rfl Tryz.underlying25 sz131 (vl rfl) (vl rfl) (by omega) (row_at hy)) (tp rfl (ok_loadA rfl agg131 sz131 (vl rfl) rfl rfl) ?_)
 refine TO.alloc rfl rfl (by decide) rfl z131 zo131 (fun b2 => ?_)
 refine sf 0 9 ⟨rfl, rfl, rfl⟩ rfl rfl rfl rfl ?_
 refine ao ?_
 refine wk7 1 2 8 9 15 16 17 rfl ?_
 refine ac ?_
 refine co rfl (ok_callc (x, y) rfl (vl rfl) ⟨ke rfl, ke rfl, trivial⟩) ?_
 refine ac ?_
 refine Tr.cn rfl ?_ ?_ <;> intro h3 q3
 refine ac ?_
 refine ac ?_
 · refine bool_eq ?_; symm; rw [decide_eq_false_iff_not]; refine sameN hx_k hy ?_; rintro rfl; simp_all
 refine ac ?_
 refine ac ?_
 exact Fin.fam_same (k + 1) ⟨⟨hk_k, sameY hx_k hy hinv_k (by simp_all)⟩, by omega⟩ ⟨⟨_, rfl, int_succ k⟩, ke rfl, ke rfl, ke rfl, ke rfl, trivial⟩
 have he_k : k = (a).length := by have := ge_of_dec h2; omega
 subst he_k
 refine ac ?_
 refine ac ?_
 refine ac ?_
 · refine bool_eq ?_; symm; rw [decide_eq_true_eq]; exact sameA hll hinv_k
theorem w_ES1 {a b : Idn}  : Fun Tryz.prog 136 [agg (rowId a), agg (rowId b)] (bool (decide (a = b))) := by
 refine fo Tryz.func136 rfl ⟨rfl, rfl⟩ fun M0 w0 => ?_
 refine ac ?_
 refine ac ?_
 refine co rfl (ok_eq24 rfl (vl rfl) (vl rfl)) (cm rfl ?_)
 refine Ch.cs 10 rfl ?_ ?_ <;> intro h1 q1
 refine ac ?_
 refine Ch.cs 17 rfl ?_ ?_ <;> intro h2 q2
 refine ac ?_
 refine cy h2 rfl (ok_call rfl (w_EqFC) ⟨ke rfl, ke rfl, ⟨_, rfl, fn_le_clo (dom := fun p : Crt × Crt => [agg (rowCr p.1), agg (rowCr p.2)]) (res := fun p => bool (decide (p.1 = p.2))) e_CSame (fun p => w_CSame (a := p.1) (b := p.2))⟩, trivial⟩) ?_
 refine ac ?_
 refine wk1 4 rfl ?_
 refine ac ?_
 · refine bool_eq ?_; cases a; cases b; simp_all [Bool.beq_eq_decide_eq]
 refine ac ?_
 refine wk1 4 rfl ?_
 refine ac ?_
 · refine bool_eq ?_; cases a; cases b; simp_all [Bool.beq_eq_decide_eq]
 refine ac ?_
 refine wk1 4 rfl ?_
 refine ac ?_
 · refine bool_eq ?_; cases a; cases b; simp_all [Bool.beq_eq_decide_eq]
theorem e_ES1 : Entry Tryz.prog 136 := ⟨_, Tryz.func136, rfl, rfl⟩
theorem w_EqFN {a b : List Idn}  : Fun Tryz.prog 139 [idns a, idns b, clo Tryz.prog (fun p : Idn × Idn => [agg (rowId p.1), agg (rowId p.2)]) (fun p => bool (decide (p.1 = p.2)))] (bool (decide (a = b))) := by
 refine fo Tryz.func139 rfl ⟨rfl, rfl⟩ fun M0 w0 => (Tr.lenm 0 rfl fun hlm_0 => (Tr.lenm 1 rfl fun hlm_1 => ?_))
 refine ac ?_
 refine ac ?_
 refine Tr.cn rfl ?_ ?_ <;> intro h1 q1
 have hne : ¬ a.length = b.length := by simp_all; omega
 refine ac ?_
 refine ac ?_
 · refine bool_eq ?_; symm; rw [decide_eq_false_iff_not]; rintro rfl; exact hne rfl
 have hll : a.length = b.length := by simp_all; omega
 refine ac ?_
 refine ac ?_
 refine Tr.block (Tr.loopw [(1, _), (2, _), (15, _), (16, _)] (kk4 rfl) (fun k : Nat => [(17, int ((k : Nat) : Int))]) (fun k : Nat => k ≤ (a).length ∧ (a.take k = b.take k)) (fun k : Nat => (a).length - k) 0 (⟨Nat.zero_le _, rfl⟩) ⟨ke rfl, trivial⟩ ?_)
 rintro k ⟨hle_k, hinv_k⟩
 refine ac ?_
 refine Tr.seq ?_
 refine Tr.cn rfl ?_ ?_ <;> intro h2 q2
 have hk_k : k < (a).length := lt_of_dec h2
 obtain ⟨x, hx_k⟩ := at_ hk_k
 obtain ⟨y, hy⟩ := at_ (l := b) (k := k) (by omega)
 refine ac ?_
 refine ao ?_
 refine tp rfl (ok_indexAddr rfl Tryz.underlying30 sz27 (vl rfl) (vl rfl) (by omega) (row_at hx_k)) (tp rfl (ok_loadA rfl agg27 sz27 (vl rfl) rfl rfl) ?_)
 refine TO.alloc rfl rfl (by decide) rfl z27 zo27 (fun b1 => ?_)
 refine tm rfl ?_
 refine sf 0 8 ⟨rfl, rfl, rfl⟩ rfl rfl rfl rfl ?_
 refine ao ?_
 refine ao ?_
 refine tp rfl (ok_indexAddr rfl Tryz.underlying30 sz27 (vl rfl) (vl rfl) (by omega) (row_at hy)) (tp rfl (ok_loadA rfl agg27 sz27 (vl rfl) rfl rfl) ?_)
 refine TO.alloc rfl rfl (by decide) rfl z27 zo27 (fun b2 => ?_)
 refine sf 0 9 ⟨rfl, rfl, rfl⟩ rfl rfl rfl rfl ?_
 refine ao ?_
 refine wk7 1 2 8 9 15 16 17 rfl ?_
 refine ac ?_
 refine co rfl (ok_callc (x, y) rfl (vl rfl) ⟨ke rfl, ke rfl, trivial⟩) ?_
 refine ac ?_
 refine Tr.cn rfl ?_ ?_ <;> intro h3 q3
 refine ac ?_
 refine ac ?_
 · refine bool_eq ?_; symm; rw [decide_eq_false_iff_not]; refine sameN hx_k hy ?_; rintro rfl; simp_all
 refine ac ?_
 refine ac ?_
 exact Fin.fam_same (k + 1) ⟨⟨hk_k, sameY hx_k hy hinv_k (by simp_all)⟩, by omega⟩ ⟨⟨_, rfl, int_succ k⟩, ke rfl, ke rfl, ke rfl, ke rfl, trivial⟩
 have he_k : k = (a).length := by have := ge_of_dec h2; omega
 subst he_k
 refine ac ?_
 refine ac ?_
 refine ac ?_
 · refine bool_eq ?_; symm; rw [decide_eq_true_eq]; exact sameA hll hinv_k
theorem w_ESame {a b : Ept}  : Fun Tryz.prog 91 [agg (rowEp a), agg (rowEp b)] (bool (decide (a = b))) := by
 refine fo Tryz.func91 rfl ⟨rfl, rfl⟩ fun M0 w0 => ?_
 refine ac ?_
 refine ac ?_
 refine wk3 2 3 5 rfl (Tr.cutk [2, 3, 5] [(6, bool (decide (a.suites = b.suites ∧ a.anchors = b.anchors ∧ a.hashes = b.hashes)))] (True) ?_ (fun h1 => ?_))
 refine ac ?_
 refine co rfl (kc2 (w_SEqI) rfl rfl rfl) (cm rfl ?_)
 refine Ch.cs 12 rfl ?_ ?_ <;> intro h2 q2
 refine ac ?_
 refine cy h2 rfl (kc2 (w_SEqI) rfl rfl rfl) ?_
 refine ac ?_
 refine Ch.cs 19 rfl ?_ ?_ <;> intro h3 q3
 refine ac ?_
 refine cy h3 rfl (kc2 (w_SEqI) rfl rfl rfl) ?_
 refine ac ?_
 exact Fin.fam_same () (by simp_all) ⟨⟨_, rfl, bool_eq (by simp_all)⟩, ke rfl, ke rfl, ke rfl, trivial⟩
 refine ac ?_
 exact Fin.fam_same () (by simp_all) ⟨⟨_, rfl, bool_eq (by simp_all)⟩, ke rfl, ke rfl, ke rfl, trivial⟩
 refine ac ?_
 exact Fin.fam_same () (by simp_all) ⟨⟨_, rfl, bool_eq (by simp_all)⟩, ke rfl, ke rfl, ke rfl, trivial⟩
 refine ac ?_
 refine Ch.cs 31 rfl ?_ ?_ <;> intro h4 q4
 refine ac ?_
 refine Ch.cs 38 rfl ?_ ?_ <;> intro h5 q5
 refine ac ?_
 refine Ch.cs 45 rfl ?_ ?_ <;> intro h6 q6
 refine ac ?_
 refine Ch.cs 52 rfl ?_ ?_ <;> intro h7 q7
 refine ac ?_
 refine Ch.cs 59 rfl ?_ ?_ <;> intro h8 q8
 refine ac ?_
 refine Ch.cs 62 rfl ?_ ?_ <;> intro h9 q9
 refine ac ?_
 refine cy h9 rfl (ok_call rfl (w_EqFN) ⟨ke rfl, ke rfl, ⟨_, rfl, fn_le_clo (dom := fun p : Idn × Idn => [agg (rowId p.1), agg (rowId p.2)]) (res := fun p => bool (decide (p.1 = p.2))) e_ES1 (fun p => w_ES1 (a := p.1) (b := p.2))⟩, trivial⟩) ?_
 refine ac ?_
 refine wk1 4 rfl ?_
 refine ac ?_
 · refine bool_eq ?_; cases a; cases b; simp_all [Bool.beq_eq_decide_eq]
 refine ac ?_
 refine wk1 4 rfl ?_
 refine ac ?_
 · refine bool_eq ?_; cases a; cases b; simp_all [Bool.beq_eq_decide_eq]
 refine ac ?_
 refine wk1 4 rfl ?_
 refine ac ?_
 · refine bool_eq ?_; cases a; cases b; simp_all [Bool.beq_eq_decide_eq]
 refine ac ?_
 refine wk1 4 rfl ?_
 refine ac ?_
 · refine bool_eq ?_; cases a; cases b; simp_all [Bool.beq_eq_decide_eq]
 refine ac ?_
 refine wk1 4 rfl ?_
 refine ac ?_
 · refine bool_eq ?_; cases a; cases b; simp_all [Bool.beq_eq_decide_eq]
 refine ac ?_
 refine wk1 4 rfl ?_
 refine ac ?_
 · refine bool_eq ?_; cases a; cases b; simp_all [Bool.beq_eq_decide_eq]
 refine ac ?_
 refine wk1 4 rfl ?_
 refine ac ?_
 · refine bool_eq ?_; cases a; cases b; simp_all [Bool.beq_eq_decide_eq]
theorem e_ESame : Entry Tryz.prog 91 := ⟨_, Tryz.func91, rfl, rfl⟩
theorem w_EqFE {a b : List Ept}  : Fun Tryz.prog 90 [epts a, epts b, clo Tryz.prog (fun p : Ept × Ept => [agg (rowEp p.1), agg (rowEp p.2)]) (fun p => bool (decide (p.1 = p.2)))] (bool (decide (a = b))) := by
 refine fo Tryz.func90 rfl ⟨rfl, rfl⟩ fun M0 w0 => (Tr.lenm 0 rfl fun hlm_0 => (Tr.lenm 1 rfl fun hlm_1 => ?_))
 refine ac ?_
 refine ac ?_
 refine Tr.cn rfl ?_ ?_ <;> intro h1 q1
 have hne : ¬ a.length = b.length := by simp_all; omega
 refine ac ?_
 refine ac ?_
 · refine bool_eq ?_; symm; rw [decide_eq_false_iff_not]; rintro rfl; exact hne rfl
 have hll : a.length = b.length := by simp_all; omega
 refine ac ?_
 refine ac ?_
 refine Tr.block (Tr.loopw [(1, _), (2, _), (15, _), (16, _)] (kk4 rfl) (fun k : Nat => [(17, int ((k : Nat) : Int))]) (fun k : Nat => k ≤ (a).length ∧ (a.take k = b.take k)) (fun k : Nat => (a).length - k) 0 (⟨Nat.zero_le _, rfl⟩) ⟨ke rfl, trivial⟩ ?_)
 rintro k ⟨hle_k, hinv_k⟩
 refine ac ?_
 refine Tr.seq ?_
 refine Tr.cn rfl ?_ ?_ <;> intro h2 q2
 have hk_k : k < (a).length := lt_of_dec h2
 obtain ⟨x, hx_k⟩ := at_ hk_k
 obtain ⟨y, hy⟩ := at_ (l := b) (k := k) (by omega)
 refine ac ?_
 refine ao ?_
 refine tp rfl (ok_indexAddr rfl Tryz.underlying37 sz32 (vl rfl) (vl rfl) (by omega) (row_at hx_k)) (tp rfl (ok_loadA rfl agg32 sz32 (vl rfl) rfl rfl) ?_)
 refine TO.alloc rfl rfl (by decide) rfl z32 zo32 (fun b1 => ?_)
 refine tm rfl ?_
 refine sf 0 8 ⟨rfl, rfl, rfl⟩ rfl rfl rfl rfl ?_
 refine ao ?_
 refine ao ?_
 refine tp rfl (ok_indexAddr rfl Tryz.underlying37 sz32 (vl rfl) (vl rfl) (by omega) (row_at hy)) (tp rfl (ok_loadA rfl agg32 sz32 (vl rfl) rfl rfl) ?_)
 refine TO.alloc rfl rfl (by decide) rfl z32 zo32 (fun b2 => ?_)
 refine sf 0 9 ⟨rfl, rfl, rfl⟩ rfl rfl rfl rfl ?_
 refine ao ?_
 refine wk7 1 2 8 9 15 16 17 rfl ?_
 refine ac ?_
 refine co rfl (ok_callc (x, y) rfl (vl rfl) ⟨ke rfl, ke rfl, trivial⟩) ?_
 refine ac ?_
 refine Tr.cn rfl ?_ ?_ <;> intro h3 q3
 refine ac ?_
 refine ac ?_
 · refine bool_eq ?_; symm; rw [decide_eq_false_iff_not]; refine sameN hx_k hy ?_; rintro rfl; simp_all
 refine ac ?_
 refine ac ?_
 exact Fin.fam_same (k + 1) ⟨⟨hk_k, sameY hx_k hy hinv_k (by simp_all)⟩, by omega⟩ ⟨⟨_, rfl, int_succ k⟩, ke rfl, ke rfl, ke rfl, ke rfl, trivial⟩
 have he_k : k = (a).length := by have := ge_of_dec h2; omega
 subst he_k
 refine ac ?_
 refine ac ?_
 refine ac ?_
 · refine bool_eq ?_; symm; rw [decide_eq_true_eq]; exact sameA hll hinv_k
end Go.Proofs.YtppeeogffbpcbaaGreat
namespace Go.Proofs.YtppeeogffbpcbaaGreat
open Go Go.RowKit Cp

/-- A link of an item. -/
structure Lnk where
  alg : Int
  bits : Int
  day : Int
  deriving DecidableEq
abbrev rowL (x : Lnk) : List Pr := [int x.alg, int x.bits, int x.day]
abbrev lnks (l : List Lnk) : Pr := slice 3 (l.map rowL)
/-- An item. -/
structure Itm where
  name : List UInt8
  kind : Int
  purpose : Int
  links : List Lnk
  until_ : Int
  deriving DecidableEq
abbrev rowIt (x : Itm) : List Pr := [str x.name, int x.kind, int x.purpose, lnks x.links, int x.until_]
abbrev itms (l : List Itm) : Pr := slice 5 (l.map rowIt)
/-- An edge. -/
structure Edg where
  client : Int
  server : Int
  deriving DecidableEq
abbrev rowG (x : Edg) : List Pr := [int x.client, int x.server]
abbrev edgs (l : List Edg) : Pr := slice 2 (l.map rowG)
abbrev zeroL : Lnk := ⟨0, 0, 0⟩
abbrev zeroG : Edg := ⟨0, 0⟩
def linkAt (l : List Lnk) (i : Nat) : Bool := decide (strength (l[i]?.getD zeroL).alg (l[i]?.getD zeroL).bits > 0) && decide (0 ≤ (l[i]?.getD zeroL).day) && decide ((l[i]?.getD zeroL).day ≤ 40000) && (decide (i = 0) || decide ((l[i - 1]?.getD zeroL).day < (l[i]?.getD zeroL).day))
def itemB (x : Itm) : Bool := (named x.name && decide (x.kind = 1 ∨ x.kind = 2) && decide (1 ≤ x.purpose) && decide (x.purpose ≤ 4) && decide (1 ≤ x.links.length) && decide (x.links.length ≤ 8)) && allI (linkAt x.links) x.links.length && (decide ((x.links[0]?.getD zeroL).day ≤ x.until_) && decide (x.until_ ≤ 40000))
structure ItmOk (x : Itm) : Prop where
  name : named x.name = true
  kind : x.kind = 1 ∨ x.kind = 2
  p1 : 1 ≤ x.purpose
  p4 : x.purpose ≤ 4
  l1 : 1 ≤ x.links.length
  l8 : x.links.length ≤ 8
  lnk : ∀ j, j < x.links.length → linkAt x.links j = true
  u0 : (x.links[0]?.getD zeroL).day ≤ x.until_
  u1 : x.until_ ≤ 40000
theorem item_iff {x : Itm} : itemB x = true ↔ ItmOk x := by
  unfold itemB
  simp only [Bool.and_eq_true, decide_eq_true_eq, allI_iff]
  exact ⟨fun ⟨⟨⟨⟨⟨⟨⟨h1, h2⟩, h3⟩, h4⟩, h5⟩, h6⟩, h7⟩, h8, h9⟩ => ⟨h1, h2, h3, h4, h5, h6, h7, h8, h9⟩, fun h => ⟨⟨⟨⟨⟨⟨⟨h.name, h.kind⟩, h.p1⟩, h.p4⟩, h.l1⟩, h.l8⟩, h.lnk⟩, h.u0, h.u1⟩⟩
def edgeAt (n : Nat) (l : List Edg) (i : Nat) : Bool := (decide (0 ≤ (l[i]?.getD zeroG).client ∧ (l[i]?.getD zeroG).client < n) && decide (0 ≤ (l[i]?.getD zeroG).server ∧ (l[i]?.getD zeroG).server < n) && decide ((l[i]?.getD zeroG).client ≠ (l[i]?.getD zeroG).server)) && (decide (i = 0) || decide ((l[i - 1]?.getD zeroG).client < (l[i]?.getD zeroG).client ∨ ((l[i - 1]?.getD zeroG).client = (l[i]?.getD zeroG).client ∧ (l[i - 1]?.getD zeroG).server < (l[i]?.getD zeroG).server)))
def edgesB (n : Nat) (l : List Edg) : Bool := allI (edgeAt n l) l.length && decide (l.length ≤ 40)

theorem w_LtCheck {x : Itm} (hx : x.name.length ≤ maxLen) : Fun Tryz.prog 134 [agg (rowIt x)] (int (if itemB x then 0 else 30)) := by
 refine fo Tryz.func134 rfl ⟨rfl, rfl⟩ fun M0 w0 => ?_
 refine ac ?_
 refine wk1 1 rfl (Tr.cutk [1] [(3, bool (decide (x.kind = 1 ∨ x.kind = 2)))] (True) ?_ (fun h1 => ?_))
 refine ac ?_
 refine Ch.cs 9 rfl ?_ ?_ <;> intro h2 q2
 refine ac ?_
 exact Fin.fam_same () trivial ⟨⟨_, rfl, bool_eq (by simp_all [Bool.beq_eq_decide_eq])⟩, ke rfl, trivial⟩
 refine ac ?_
 exact Fin.fam_same () trivial ⟨⟨_, rfl, bool_eq (by simp_all [Bool.beq_eq_decide_eq])⟩, ke rfl, trivial⟩
 refine wk2 1 3 rfl (Tr.cutk [1] [] ((named x.name = true ∧ (x.kind = 1 ∨ x.kind = 2) ∧ 1 ≤ x.purpose ∧ x.purpose ≤ 4) ∧ 1 ≤ x.links.length ∧ x.links.length ≤ 8) ?_ (fun hpre => ?_))
 refine ac ?_
 refine co rfl (kc1 (w_Named hx) rfl rfl) ?_
 refine ac ?_
 refine Ch.cs 18 rfl ?_ ?_ <;> intro h4 q4
 refine ac ?_
 refine wk2 1 43 rfl ?_
 refine ac ?_
 refine ac ?_
 · refine int_eq (if_neg (fun hv => ?_)).symm; have ok := item_iff.1 hv; have o1 := ok.name; have o2 := ok.kind; have o3 := ok.p1; have o4 := ok.p4; have o5 := ok.l1; have o6 := ok.l8; have o7 := ok.u0; have o8 := ok.u1; (simp_all)
 refine ac ?_
 refine Ch.cs 22 rfl ?_ ?_ <;> intro h5 q5
 refine ac ?_
 refine wk2 1 43 rfl ?_
 refine ac ?_
 refine ac ?_
 · refine int_eq (if_neg (fun hv => ?_)).symm; have ok := item_iff.1 hv; have o1 := ok.name; have o2 := ok.kind; have o3 := ok.p1; have o4 := ok.p4; have o5 := ok.l1; have o6 := ok.l8; have o7 := ok.u0; have o8 := ok.u1; (omega)
 refine ac ?_
 refine Ch.cs 27 rfl ?_ ?_ <;> intro h6 q6
 refine ac ?_
 refine wk2 1 43 rfl ?_
 refine ac ?_
 refine ac ?_
 · refine int_eq (if_neg (fun hv => ?_)).symm; have ok := item_iff.1 hv; have o1 := ok.name; have o2 := ok.kind; have o3 := ok.p1; have o4 := ok.p4; have o5 := ok.l1; have o6 := ok.l8; have o7 := ok.u0; have o8 := ok.u1; (omega)
 refine ac ?_
 refine Ch.cs 32 rfl ?_ ?_ <;> intro h7 q7
 refine ac ?_
 refine wk2 1 43 rfl ?_
 refine ac ?_
 refine ac ?_
 · refine int_eq (if_neg (fun hv => ?_)).symm; have ok := item_iff.1 hv; have o1 := ok.name; have o2 := ok.kind; have o3 := ok.p1; have o4 := ok.p4; have o5 := ok.l1; have o6 := ok.l8; have o7 := ok.u0; have o8 := ok.u1; (omega)
 refine ac ?_
 refine Ch.cs 38 rfl ?_ ?_ <;> intro h8 q8
 refine ac ?_
 refine wk2 1 43 rfl ?_
 refine ac ?_
 refine ac ?_
 · refine int_eq (if_neg (fun hv => ?_)).symm; have ok := item_iff.1 hv; have o1 := ok.name; have o2 := ok.kind; have o3 := ok.p1; have o4 := ok.p4; have o5 := ok.l1; have o6 := ok.l8; have o7 := ok.u0; have o8 := ok.u1; (omega)
 refine ac ?_
 refine wk2 1 43 rfl ?_
 refine Tr.cn rfl ?_ ?_ <;> intro h9 q9
 refine ac ?_
 refine ac ?_
 · refine int_eq (if_neg (fun hv => ?_)).symm; have ok := item_iff.1 hv; have o1 := ok.name; have o2 := ok.kind; have o3 := ok.p1; have o4 := ok.p4; have o5 := ok.l1; have o6 := ok.l8; have o7 := ok.u0; have o8 := ok.u1; (omega)
 refine Tr.skip (Fin.fam_same () ⟨⟨by simp_all, by simp_all, by omega, by omega⟩, by omega, by omega⟩ ⟨ke rfl, trivial⟩)
 obtain ⟨⟨hq1, hq2, hq3, hq4⟩, hq5, hq6⟩ := hpre
 obtain ⟨c0, hc0⟩ := at_ (l := x.links) (k := 0) (by omega)
 have hg0 := getD_at (d := zeroL) hc0
 refine ac ?_
 refine Tr.block (Tr.loopw [(1, _), (45, _), (46, _)] (kk3 rfl) (fun k : Nat => [(47, int ((k : Nat) : Int))]) (fun k : Nat => k ≤ (x.links).length ∧ (∀ j, j < k → linkAt x.links j = true)) (fun k : Nat => (x.links).length - k) 0 (⟨Nat.zero_le _, fun j hj => absurd hj (by omega)⟩) ⟨ke rfl, trivial⟩ ?_)
 rintro k ⟨hle_k, hinv_k⟩
 refine ac ?_
 refine Tr.seq ?_
 refine Tr.cn rfl ?_ ?_ <;> intro h10 q10
 have hk_k : k < (x.links).length := lt_of_dec h10
 obtain ⟨c, hx_k⟩ := at_ hk_k
 have hg := getD_at (d := zeroL) hx_k
 refine ac ?_
 refine ao ?_
 refine tp rfl (ok_indexAddr rfl Tryz.underlying105 sz152 (vl rfl) (vl rfl) (by omega) (row_at hx_k)) (tp rfl (ok_loadA rfl agg152 sz152 (vl rfl) rfl rfl) ?_)
 refine TO.alloc rfl rfl (by decide) rfl z152 zo152 (fun b1 => ?_)
 refine tm rfl ?_
 refine sf 0 5 ⟨rfl, rfl, rfl⟩ rfl rfl rfl rfl ?_
 refine ao ?_
 refine ac ?_
 refine co rfl (kc1 (w_Valid) rfl rfl) ?_
 refine ac ?_
 refine Ch.cs 56 rfl ?_ ?_ <;> intro h11 q11
 refine ac ?_
 refine wk5 1 45 46 47 81 rfl ?_
 refine ac ?_
 refine ac ?_
 · refine int_eq (if_neg (fun hv => ?_)).symm; have ok := item_iff.1 hv; have o1 := ok.name; have o2 := ok.kind; have o3 := ok.p1; have o4 := ok.p4; have o5 := ok.l1; have o6 := ok.l8; have o7 := ok.u0; have o8 := ok.u1; (have h_ := ok.lnk k (by omega); unfold linkAt at h_; rw [hg] at h_; simp_all; omega)
 refine ac ?_
 refine Ch.cs 61 rfl ?_ ?_ <;> intro h12 q12
 refine ac ?_
 refine wk5 1 45 46 47 81 rfl ?_
 refine ac ?_
 refine ac ?_
 · refine int_eq (if_neg (fun hv => ?_)).symm; have ok := item_iff.1 hv; have o1 := ok.name; have o2 := ok.kind; have o3 := ok.p1; have o4 := ok.p4; have o5 := ok.l1; have o6 := ok.l8; have o7 := ok.u0; have o8 := ok.u1; (have h_ := ok.lnk k (by omega); unfold linkAt at h_; rw [hg] at h_; simp_all; omega)
 refine ac ?_
 refine Ch.cs 66 rfl ?_ ?_ <;> intro h13 q13
 refine ac ?_
 refine wk5 1 45 46 47 81 rfl ?_
 refine ac ?_
 refine ac ?_
 · refine int_eq (if_neg (fun hv => ?_)).symm; have ok := item_iff.1 hv; have o1 := ok.name; have o2 := ok.kind; have o3 := ok.p1; have o4 := ok.p4; have o5 := ok.l1; have o6 := ok.l8; have o7 := ok.u0; have o8 := ok.u1; (have h_ := ok.lnk k (by omega); unfold linkAt at h_; rw [hg] at h_; simp_all; omega)
 refine ac ?_
 refine Ch.cs 69 rfl ?_ ?_ <;> intro h14 q14
 have hk0 : 0 < k := by simpa using h14
 obtain ⟨y, hy⟩ := at_ (l := x.links) (k := k - 1) (by omega)
 have hgy := getD_at (d := zeroL) hy
 refine ac ?_
 refine cy h14 rfl (ok_indexAddr rfl Tryz.underlying105 sz152 (vl rfl) (vl rfl) (by omega) (by rw [show ((k : Nat) : Int) - 1 = ((k - 1 : Nat) : Int) by omega]; exact row_at hy)) ?_
 refine ac ?_
 refine wk5 1 45 46 47 81 rfl ?_
 refine Tr.cn rfl ?_ ?_ <;> intro h15 q15
 refine ac ?_
 refine ac ?_
 · refine int_eq (if_neg (fun hv => ?_)).symm; have ok := item_iff.1 hv; have o1 := ok.name; have o2 := ok.kind; have o3 := ok.p1; have o4 := ok.p4; have o5 := ok.l1; have o6 := ok.l8; have o7 := ok.u0; have o8 := ok.u1; (have h_ := ok.lnk k (by omega); unfold linkAt at h_; rw [hg, hgy] at h_; simp_all; omega)
 refine ac ?_
 refine ac ?_
 exact Fin.fam_same (k + 1) ⟨⟨hk_k, allI_step hinv_k (by unfold linkAt; rw [hg, hgy]; simp_all)⟩, by omega⟩ ⟨⟨_, rfl, int_succ k⟩, ke rfl, ke rfl, ke rfl, trivial⟩
 have hk00 : ¬ 0 < k := by simpa using h14
 refine ac ?_
 refine wk5 1 45 46 47 81 rfl ?_
 refine ac ?_
 refine ac ?_
 exact Fin.fam_same (k + 1) ⟨⟨hk_k, allI_step hinv_k (by unfold linkAt; rw [hg]; simp_all)⟩, by omega⟩ ⟨⟨_, rfl, int_succ k⟩, ke rfl, ke rfl, ke rfl, trivial⟩
 have he_k : k = (x.links).length := by have := ge_of_dec h10; omega
 subst he_k
 refine ac ?_
 refine ac ?_
 refine co rfl (ok_indexAddr rfl Tryz.underlying105 sz152 (vl rfl) (vl rfl) (by omega) (row_at (k := 0) hc0)) ?_
 refine ac ?_
 refine Ch.cs 91 rfl ?_ ?_ <;> intro h16 q16
 refine ac ?_
 refine wk1 95 rfl ?_
 refine ac ?_
 refine ac ?_
 · refine int_eq (if_neg (fun hv => ?_)).symm; have ok := item_iff.1 hv; have o1 := ok.name; have o2 := ok.kind; have o3 := ok.p1; have o4 := ok.p4; have o5 := ok.l1; have o6 := ok.l8; have o7 := ok.u0; have o8 := ok.u1; (simp_all; omega)
 refine ac ?_
 refine wk1 95 rfl ?_
 refine Tr.cn rfl ?_ ?_ <;> intro h17 q17
 refine ac ?_
 refine ac ?_
 · refine int_eq (if_neg (fun hv => ?_)).symm; have ok := item_iff.1 hv; have o1 := ok.name; have o2 := ok.kind; have o3 := ok.p1; have o4 := ok.p4; have o5 := ok.l1; have o6 := ok.l8; have o7 := ok.u0; have o8 := ok.u1; (omega)
 refine ac ?_
 refine ac ?_
 refine ac ?_
 · refine int_eq (if_pos (item_iff.2 ⟨hq1, hq2, hq3, hq4, hq5, hq6, hinv_k, by rw [hg0]; omega, by omega⟩)).symm
theorem w_linked {l : List Edg} {n : Nat}  : Fun Tryz.prog 135 [edgs l, int ((n : Nat) : Int)] (bool (edgesB n l)) := by
 refine Fun.of Tryz.func135 rfl rfl (by exact Nat.le_of_ble_eq_true rfl) fun M0 w0 => ?_
 refine Tr.lenm 0 rfl fun hlm_0 => (Tr.seq (Tr.reg0 (cm rfl (Ch.nil (Fin.go (Tr.seq (Tr.seq (Tr.reg0 (cm rfl (co rfl (ok_lenm rfl Tryz.underlying38 (vl rfl)) (cm rfl (Ch.nil (Fin.go (Tr.block ?_))))))))))))))
 refine Tr.loopw [(0, _), (1, _), (7, _), (8, _)] (kk4 rfl) (fun k : Nat => [(9, int ((k : Nat) : Int))]) (fun k : Nat => k ≤ (l).length ∧ (∀ j, j < k → edgeAt n l j = true)) (fun k : Nat => (l).length - k) 0 (⟨Nat.zero_le _, fun j hj => absurd hj (by omega)⟩) ⟨ke rfl, trivial⟩ ?_
 rintro k ⟨hle_k, hinv_k⟩
 refine Tr.seq (Tr.reg0 (co rfl (ki rfl rfl rfl rfl) (Ch.nil (Fin.go (Tr.seq ?_)))))
 refine Tr.cn rfl ?_ ?_ <;> intro h1 q1
 have hk_k : k < (l).length := lt_of_dec h1
 obtain ⟨c, hx_k⟩ := at_ hk_k
 have hg := getD_at (d := zeroG) hx_k
 refine Tr.skip (Fin.go (Tr.seq (Tr.block (Tr.seq (Tr.regT (tm rfl (tp rfl (ok_indexAddr rfl Tryz.underlying38 sz80 (vl rfl) (vl rfl) (by omega) (row_at hx_k)) (tp rfl (ok_loadA rfl agg80 sz80 (vl rfl) rfl rfl) ?_))))))))
 refine TO.alloc rfl rfl (by decide) rfl z80 zo80 (fun b1 => ?_)
 refine tm rfl (TO.store_all 0 rfl rfl rfl (vl rfl) (VL.le (vl rfl) (agg_cellsP _)) rfl sz80 rfl rfl (TO.freeze 0 6 rfl rfl (TO.nil (Fin.go (Tr.seq (Tr.seq (Tr.reg0 (co rfl (kfa rfl fo80_0 rfl rfl) (co rfl (kl1 rfl one3 rfl) (co rfl (ki rfl rfl rfl rfl) (cm rfl ?_)))))))))))
 refine Ch.cs 17 rfl ?_ ?_ <;> intro h2 q2
 iterate 4 refine cnf h2 rfl ?_
 refine co rfl (kpt rfl rfl h2 rfl) (cm rfl (cnd rfl rfl (cnd rfl rfl (cnd rfl rfl (co rfl (kpt rfl rfl rfl rfl) (cm rfl ?_))))))
 iterate 4 refine cnd rfl rfl ?_
 refine co rfl (kpt rfl rfl rfl rfl) (cm rfl ?_)
 iterate 5 refine cnd rfl rfl ?_
 refine co rfl (kpt rfl rfl rfl rfl) (Ch.nil (Fin.go (wk8 0 1 5 6 7 8 9 40 rfl (Tr.cond rfl (fun _ => ?_) (fun h => nomatch h)))))
 refine Tr.seq (Tr.reg0 (cm rfl (Ch.nil (Fin.go (Tr.ret (Fin.then_ret (Fin.block_ret (Fin.then_ret (Fin.then_ret (Fin.block_ret (Fin.then_ret (Fin.ret1 rfl (OutW.bse _ _) rfl ?_))))))))))))
 · refine bool_eq ?_; unfold edgesB; rw [allI_hit (p := edgeAt n l) (k := k) (by omega) (by unfold edgeAt; rw [hg]; simp_all; omega)]; rfl
 refine cy h2 rfl (kfa rfl fo80_0 rfl rfl) (cy h2 rfl (kl1 rfl one3 rfl) (cym h2 rfl (cy h2 rfl (ki rfl rfl rfl rfl) (co rfl (kpf rfl rfl h2 rfl) (cm rfl ?_)))))
 refine Ch.cs 23 rfl ?_ ?_ <;> intro h3 q3
 refine cnf h3 rfl (cnf h3 rfl (cnf h3 rfl (co rfl (kpt rfl rfl h3 rfl) (cm rfl ?_))))
 iterate 4 refine cnd rfl rfl ?_
 refine co rfl (kpt rfl rfl rfl rfl) (cm rfl ?_)
 iterate 5 refine cnd rfl rfl ?_
 refine co rfl (kpt rfl rfl rfl rfl) (Ch.nil (Fin.go (wk8 0 1 5 6 7 8 9 40 rfl (Tr.cond rfl (fun _ => ?_) (fun h => nomatch h)))))
 refine Tr.seq (Tr.reg0 (cm rfl (Ch.nil (Fin.go (Tr.ret (Fin.then_ret (Fin.block_ret (Fin.then_ret (Fin.then_ret (Fin.block_ret (Fin.then_ret (Fin.ret1 rfl (OutW.bse _ _) rfl ?_))))))))))))
 · refine bool_eq ?_; unfold edgesB; rw [allI_hit (p := edgeAt n l) (k := k) (by omega) (by unfold edgeAt; rw [hg]; simp_all; omega)]; rfl
 refine cy h3 rfl (kfa rfl fo80_1 rfl rfl) (cy h3 rfl (kl1 rfl one3 rfl) (cy h3 rfl (ki rfl rfl rfl rfl) (co rfl (kpf rfl rfl h3 rfl) (cm rfl ?_))))
 refine Ch.cs 28 rfl ?_ ?_ <;> intro h4 q4
 iterate 4 refine cnf h4 rfl ?_
 refine co rfl (kpt rfl rfl h4 rfl) (cm rfl ?_)
 iterate 5 refine cnd rfl rfl ?_
 refine co rfl (kpt rfl rfl rfl rfl) (Ch.nil (Fin.go (wk8 0 1 5 6 7 8 9 40 rfl (Tr.cond rfl (fun _ => ?_) (fun h => nomatch h)))))
 refine Tr.seq (Tr.reg0 (cm rfl (Ch.nil (Fin.go (Tr.ret (Fin.then_ret (Fin.block_ret (Fin.then_ret (Fin.then_ret (Fin.block_ret (Fin.then_ret (Fin.ret1 rfl (OutW.bse _ _) rfl ?_))))))))))))
 · refine bool_eq ?_; unfold edgesB; rw [allI_hit (p := edgeAt n l) (k := k) (by omega) (by unfold edgeAt; rw [hg]; simp_all; omega)]; rfl
 refine cy h4 rfl (kfa rfl fo80_1 rfl rfl) (cy h4 rfl (kl1 rfl one3 rfl) (cym h4 rfl (cy h4 rfl (ki rfl rfl rfl rfl) (co rfl (kpf rfl rfl h4 rfl) (cm rfl ?_)))))
 refine Ch.cs 34 rfl ?_ ?_ <;> intro h5 q5
 iterate 5 refine cnf h5 rfl ?_
 refine co rfl (kpt rfl rfl h5 rfl) (Ch.nil (Fin.go (wk8 0 1 5 6 7 8 9 40 rfl (Tr.cond rfl (fun _ => ?_) (fun h => nomatch h)))))
 refine Tr.seq (Tr.reg0 (cm rfl (Ch.nil (Fin.go (Tr.ret (Fin.then_ret (Fin.block_ret (Fin.then_ret (Fin.then_ret (Fin.block_ret (Fin.then_ret (Fin.ret1 rfl (OutW.bse _ _) rfl ?_))))))))))))
 · refine bool_eq ?_; unfold edgesB; rw [allI_hit (p := edgeAt n l) (k := k) (by omega) (by unfold edgeAt; rw [hg]; simp_all; omega)]; rfl
 refine cy h5 rfl (kfa rfl fo80_0 rfl rfl) (cy h5 rfl (kl1 rfl one3 rfl) (cy h5 rfl (kfa rfl fo80_1 rfl rfl) (cy h5 rfl (kl1 rfl one3 rfl) (cy h5 rfl (ki rfl rfl rfl rfl) (co rfl (kpf rfl rfl h5 rfl) (Ch.nil (Fin.go (wk8 0 1 5 6 7 8 9 40 rfl ?_))))))))
 refine Tr.cn rfl ?_ ?_ <;> intro h6 q6
 refine Tr.seq (Tr.reg0 (cm rfl (Ch.nil (Fin.go (Tr.ret (Fin.then_ret (Fin.block_ret (Fin.then_ret (Fin.then_ret (Fin.block_ret (Fin.then_ret (Fin.ret1 rfl (OutW.bse _ _) rfl ?_))))))))))))
 · refine bool_eq ?_; unfold edgesB; rw [allI_hit (p := edgeAt n l) (k := k) (by omega) (by unfold edgeAt; rw [hg]; simp_all)]; rfl
 refine Tr.skip (Fin.go (Tr.seq (Tr.reg1 mixed (by kernel_rfl) (cm rfl (co rfl (ki rfl rfl rfl rfl) (cm rfl ?_))))))
 refine Ch.cs 43 rfl ?_ ?_ <;> intro h7 q7
 have hk0 : 0 < k := by simpa using h7
 obtain ⟨y, hy⟩ := at_ (l := l) (k := k - 1) (by omega)
 have hgy := getD_at (d := zeroG) hy
 refine cym h7 rfl (cym h7 rfl ?_)
 refine cy h7 rfl (ok_sub rfl (vl rfl) (vl rfl) ?hin) ?_; case hin => unfold InI; omega
 refine cy h7 rfl (ok_indexAddr rfl Tryz.underlying38 sz80 (vl rfl) (vl rfl) (by omega) (by rw [show ((k : Nat) : Int) - 1 = ((k - 1 : Nat) : Int) by omega]; exact row_at hy)) ?_
 refine cy h7 rfl (kfa rfl fo80_0 rfl rfl) (cy h7 rfl (kl1 rfl one3 rfl) (cy h7 rfl (kfa rfl fo80_0 rfl rfl) (cy h7 rfl (kl1 rfl one3 rfl) (cy h7 rfl (ki rfl rfl rfl rfl) (cym h7 rfl ?_)))))
 refine Ch.cs 53 rfl ?_ ?_ <;> intro h8 q8
 iterate 10 refine cnf h8 rfl ?_
 iterate 9 refine cu rfl ?_
 refine cnf h8 rfl (cy h7 rfl (kpt rfl rfl h8 rfl) (co rfl (kpt rfl rfl h7 rfl) (Ch.nil (Fin.go (wk6 0 1 7 8 9 75 rfl (Tr.cond rfl (fun _ => ?_) (fun h => nomatch h)))))))
 refine Tr.seq (Tr.reg0 (cm rfl (Ch.nil (Fin.go (Tr.ret (Fin.block_ret (Fin.then_ret (Fin.then_ret (Fin.block_ret (Fin.then_ret (Fin.ret1 rfl (OutW.bse _ _) rfl ?_)))))))))))
 · refine bool_eq ?_; unfold edgesB; rw [allI_hit (p := edgeAt n l) (k := k) (by omega) (by unfold edgeAt; rw [hg, hgy]; simp_all; omega)]; rfl
 refine cym h8 rfl (cym h8 rfl ?_)
 refine cy h8 rfl (ok_sub rfl (vl rfl) (vl rfl) ?hin) ?_; case hin => unfold InI; omega
 refine cy h8 rfl (ok_indexAddr rfl Tryz.underlying38 sz80 (vl rfl) (vl rfl) (by omega) (by rw [show ((k : Nat) : Int) - 1 = ((k - 1 : Nat) : Int) by omega]; exact row_at hy)) ?_
 refine cy h8 rfl (kfa rfl fo80_0 rfl rfl) (cy h8 rfl (kl1 rfl one3 rfl) (cy h8 rfl (kfa rfl fo80_0 rfl rfl) (cy h8 rfl (kl1 rfl one3 rfl) (cy h8 rfl (ki rfl rfl rfl rfl) (cym h8 rfl ?_)))))
 refine Ch.cs 63 rfl ?_ ?_ <;> intro h9 q9
 refine cym h9 rfl (cym h9 rfl ?_)
 refine cy h9 rfl (ok_sub rfl (vl rfl) (vl rfl) ?hin) ?_; case hin => unfold InI; omega
 refine cy h9 rfl (ok_indexAddr rfl Tryz.underlying38 sz80 (vl rfl) (vl rfl) (by omega) (by rw [show ((k : Nat) : Int) - 1 = ((k - 1 : Nat) : Int) by omega]; exact row_at hy)) ?_
 refine cy h9 rfl (kfa rfl fo80_1 rfl rfl) (cy h9 rfl (kl1 rfl one3 rfl) (cy h9 rfl (kfa rfl fo80_1 rfl rfl) (cy h9 rfl (kl1 rfl one3 rfl) (cy h9 rfl (ki rfl rfl rfl rfl) (cy h8 rfl (kpt rfl rfl h9 rfl) (cy h7 rfl (kpf rfl rfl h8 rfl) (co rfl (kpt rfl rfl h7 rfl) (Ch.nil (Fin.go (wk6 0 1 7 8 9 75 rfl ?_))))))))))
 refine Tr.cn rfl ?_ ?_ <;> intro h10 q10
 refine Tr.seq (Tr.reg0 (cm rfl (Ch.nil (Fin.go (Tr.ret (Fin.block_ret (Fin.then_ret (Fin.then_ret (Fin.block_ret (Fin.then_ret (Fin.ret1 rfl (OutW.bse _ _) rfl ?_)))))))))))
 · refine bool_eq ?_; unfold edgesB; rw [allI_hit (p := edgeAt n l) (k := k) (by omega) (by unfold edgeAt; rw [hg, hgy]; simp_all; omega)]; rfl
 refine Tr.skip (Fin.block (Fin.go (Tr.reg0 (cad rfl rfl rfl rfl (by omega) (cm rfl (Ch.nil ?_))))))
 exact Fin.fam_same (k + 1) ⟨⟨hk_k, allI_step hinv_k (by unfold edgeAt; rw [hg, hgy]; simp_all)⟩, by omega⟩ ⟨⟨_, rfl, int_succ k⟩, ke rfl, ke rfl, ke rfl, ke rfl, trivial⟩
 iterate 9 refine cnt h9 rfl ?_
 refine cy h8 rfl (kpf rfl rfl h9 rfl) (cy h7 rfl (kpf rfl rfl h8 rfl) (co rfl (kpt rfl rfl h7 rfl) (Ch.nil (Fin.go (wk6 0 1 7 8 9 75 rfl (Tr.cond rfl (fun h => nomatch h) (fun _ => ?_)))))))
 refine Tr.skip (Fin.block (Fin.go (Tr.reg0 (cad rfl rfl rfl rfl (by omega) (cm rfl (Ch.nil ?_))))))
 exact Fin.fam_same (k + 1) ⟨⟨hk_k, allI_step hinv_k (by unfold edgeAt; rw [hg, hgy]; simp_all; omega)⟩, by omega⟩ ⟨⟨_, rfl, int_succ k⟩, ke rfl, ke rfl, ke rfl, ke rfl, trivial⟩
 have hk00 : ¬ 0 < k := by simpa using h7
 iterate 10 refine cnt h7 rfl ?_
 iterate 20 refine cu rfl ?_
 refine cnt h7 rfl (co rfl (kpf rfl rfl h7 rfl) (Ch.nil (Fin.go (wk6 0 1 7 8 9 75 rfl (Tr.cond rfl (fun h => nomatch h) (fun _ => ?_))))))
 refine Tr.skip (Fin.block (Fin.go (Tr.reg0 (cad rfl rfl rfl rfl (by omega) (cm rfl (Ch.nil ?_))))))
 exact Fin.fam_same (k + 1) ⟨⟨hk_k, allI_step hinv_k (by unfold edgeAt; rw [hg]; simp_all)⟩, by omega⟩ ⟨⟨_, rfl, int_succ k⟩, ke rfl, ke rfl, ke rfl, ke rfl, trivial⟩
 have he_k : k = (l).length := by have := ge_of_dec h1; omega
 subst he_k
 refine Tr.exit (Fin.then_exit (Fin.then_exit (Fin.block_here (Fin.go (Tr.seq (Tr.reg0 (cm rfl (co rfl (ok_lenm rfl Tryz.underlying38 (vl rfl)) (co rfl (ki rfl rfl rfl rfl) (cm rfl (Ch.nil (Fin.go (Tr.ret (Fin.ret1 rfl (OutW.bse _ _) rfl ?_))))))))))))))
 · refine bool_eq ?_; unfold edgesB; rw [allI_end hinv_k, Bool.true_and, decide_eq_decide]; omega
end Go.Proofs.YtppeeogffbpcbaaGreat
namespace Go.Proofs.YtppeeogffbpcbaaGreat
open Go Go.RowKit Cp

/-- An estate. -/
structure Est where
  eps : List Ept
  edges : List Edg
  items : List Itm
  deriving DecidableEq
abbrev rowSt (e : Est) : List Pr := [epts e.eps, edgs e.edges, itms e.items]
abbrev zeroSt : Est := ⟨[], [], []⟩
structure Est.fits (e : Est) : Prop where
  eps : ∀ x ∈ e.eps, x.fits ∧ x.small
  items : ∀ x ∈ e.items, x.name.length ≤ maxLen
  le : e.eps.length ≤ 1000000000000
  lg : e.edges.length ≤ 1000000000000
  li : e.items.length ≤ 1000000000000
def epAt (l : List Ept) (i : Nat) : Bool := eptB (l[i]?.getD zeroEp) && (decide (i = 0) || decide (Lib.compareBytes (l[i - 1]?.getD zeroEp).name (l[i]?.getD zeroEp).name = -1))
def estB (e : Est) : Bool := (allI (epAt e.eps) e.eps.length && decide (e.eps.length ≤ 16)) && edgesB e.eps.length e.edges && (e.items.all itemB && decide (e.items.length ≤ 30))
structure EstOk (e : Est) : Prop where
  ep : ∀ j, j < e.eps.length → epAt e.eps j = true
  e16 : e.eps.length ≤ 16
  ed : ∀ j, j < e.edges.length → edgeAt e.eps.length e.edges j = true
  e40 : e.edges.length ≤ 40
  it : e.items.all itemB = true
  i30 : e.items.length ≤ 30
theorem est_iff {e : Est} : estB e = true ↔ EstOk e := by
  unfold estB edgesB
  simp only [Bool.and_eq_true, decide_eq_true_eq, allI_iff]
  exact ⟨fun ⟨⟨⟨h1, h2⟩, h3, h4⟩, h5, h6⟩ => ⟨h1, h2, h3, h4, h5, h6⟩, fun h => ⟨⟨⟨h.ep, h.e16⟩, h.ed, h.e40⟩, h.it, h.i30⟩⟩
theorem est_edges {e : Est} (h : EstOk e) : edgesB e.eps.length e.edges = true := by unfold edgesB; simp only [Bool.and_eq_true, decide_eq_true_eq, allI_iff]; exact ⟨h.ed, h.e40⟩

theorem w_XCk1 {x : Itm} (hx : x.name.length ≤ maxLen) : Fun Tryz.prog 133 [agg (rowIt x)] (bool (!itemB x)) := by
 refine fo Tryz.func133 rfl ⟨rfl, rfl⟩ fun M0 w0 => ?_
 refine ac ?_
 refine ac ?_
 refine co rfl (kc1 (w_LtCheck hx) rfl rfl) ?_
 refine ac ?_
 refine ac ?_
 · refine bool_eq ?_; cases h_ : itemB x <;> simp_all
theorem e_XCk1 : Entry Tryz.prog 133 := ⟨_, Tryz.func133, rfl, rfl⟩
theorem w_IdxIt {α : Type} {g : α → Itm} {l : List α} {p : α → Bool}  : Fun Tryz.prog 183 [slice 5 (l.map fun x => rowIt (g x)), clo Tryz.prog (fun x : α => [agg (rowIt (g x))]) (fun x => bool (p x))] (int (idx p l)) := by
 refine fo Tryz.func183 rfl ⟨rfl, rfl⟩ fun M0 w0 => (Tr.lenm 0 rfl fun hlm_0 => ?_)
 refine ac ?_
 refine ac ?_
 refine Tr.block (Tr.loopw [(0, _), (1, _), (7, _)] (kk3 rfl) (fun k : Nat => [(8, int ((k : Nat) : Int))]) (fun k : Nat => k ≤ (l).length ∧ (∀ j y, j < k → l[j]? = some y → p y = false)) (fun k : Nat => (l).length - k) 0 (⟨Nat.zero_le _, fun j y hj => absurd hj (by omega)⟩) ⟨ke rfl, trivial⟩ ?_)
 rintro k ⟨hle_k, hinv_k⟩
 refine ac ?_
 refine Tr.seq ?_
 refine Tr.cn rfl ?_ ?_ <;> intro h1 q1
 have hk_k : k < (l).length := lt_of_dec h1
 obtain ⟨x, hx_k⟩ := at_ hk_k
 refine ac ?_
 refine ac ?_
 refine ac ?_
 refine co rfl (ok_indexAddr rfl Tryz.underlying39 sz107 (vl rfl) (vl rfl) (by omega) (by exact row_at (by assumption))) ?_
 refine co rfl (ok_loadA rfl agg107 sz107 (vl rfl) rfl rfl) (co rfl (ok_callc x rfl (vl rfl) ⟨ke rfl, trivial⟩) ?_)
 refine ac ?_
 refine Tr.cn rfl ?_ ?_ <;> intro h2 q2
 refine ac ?_
 refine wk1 4 rfl ?_
 refine ac ?_
 · exact int_eq (idx_found hx_k (by assumption) hinv_k)
 refine ac ?_
 refine ac ?_
 exact Fin.fam_same (k + 1) ⟨⟨hk_k, step_no hx_k (by assumption) hinv_k⟩, by omega⟩ ⟨⟨_, rfl, int_succ k⟩, ke rfl, ke rfl, ke rfl, trivial⟩
 have he_k : k = (l).length := by have := ge_of_dec h1; omega
 subst he_k
 refine ac ?_
 refine ac ?_
 refine ac ?_
 · exact int_eq (idx_none hinv_k)
theorem w_IdxEp {α : Type} {g : α → Ept} {l : List α} {p : α → Bool}  : Fun Tryz.prog 100 [slice 9 (l.map fun x => rowEp (g x)), clo Tryz.prog (fun x : α => [agg (rowEp (g x))]) (fun x => bool (p x))] (int (idx p l)) := by
 refine fo Tryz.func100 rfl ⟨rfl, rfl⟩ fun M0 w0 => (Tr.lenm 0 rfl fun hlm_0 => ?_)
 refine ac ?_
 refine ac ?_
 refine Tr.block (Tr.loopw [(0, _), (1, _), (7, _)] (kk3 rfl) (fun k : Nat => [(8, int ((k : Nat) : Int))]) (fun k : Nat => k ≤ (l).length ∧ (∀ j y, j < k → l[j]? = some y → p y = false)) (fun k : Nat => (l).length - k) 0 (⟨Nat.zero_le _, fun j y hj => absurd hj (by omega)⟩) ⟨ke rfl, trivial⟩ ?_)
 rintro k ⟨hle_k, hinv_k⟩
 refine ac ?_
 refine Tr.seq ?_
 refine Tr.cn rfl ?_ ?_ <;> intro h1 q1
 have hk_k : k < (l).length := lt_of_dec h1
 obtain ⟨x, hx_k⟩ := at_ hk_k
 refine ac ?_
 refine ac ?_
 refine ac ?_
 refine co rfl (ok_indexAddr rfl Tryz.underlying37 sz32 (vl rfl) (vl rfl) (by omega) (by exact row_at (by assumption))) ?_
 refine co rfl (ok_loadA rfl agg32 sz32 (vl rfl) rfl rfl) (co rfl (ok_callc x rfl (vl rfl) ⟨ke rfl, trivial⟩) ?_)
 refine ac ?_
 refine Tr.cn rfl ?_ ?_ <;> intro h2 q2
 refine ac ?_
 refine wk1 4 rfl ?_
 refine ac ?_
 · exact int_eq (idx_found hx_k (by assumption) hinv_k)
 refine ac ?_
 refine ac ?_
 exact Fin.fam_same (k + 1) ⟨⟨hk_k, step_no hx_k (by assumption) hinv_k⟩, by omega⟩ ⟨⟨_, rfl, int_succ k⟩, ke rfl, ke rfl, ke rfl, trivial⟩
 have he_k : k = (l).length := by have := ge_of_dec h1; omega
 subst he_k
 refine ac ?_
 refine ac ?_
 refine ac ?_
 · exact int_eq (idx_none hinv_k)
theorem w_HasIt {α : Type} {g : α → Itm} {l : List α} {p : α → Bool}  : Fun Tryz.prog 132 [slice 5 (l.map fun x => rowIt (g x)), clo Tryz.prog (fun x : α => [agg (rowIt (g x))]) (fun x => bool (p x))] (bool (l.any p)) := by
 refine fo Tryz.func132 rfl ⟨rfl, rfl⟩ fun M0 w0 => ?_
 refine ac ?_
 refine ac ?_
 refine co rfl (kc2 (w_IdxIt) rfl rfl rfl) ?_
 refine ac ?_
 refine ac ?_
 · exact bool_eq (idx_any p l)
theorem items_rows {l : List Itm} (h : ∀ x ∈ l, x.name.length ≤ maxLen) : ∃ m : List {x : Itm // x.name.length ≤ maxLen}, (m.map fun x => rowIt x.1) = l.map rowIt ∧ (m.any fun x => !itemB x.1) = !l.all itemB := by
  refine ⟨l.attach.map fun x => ⟨x.1, h x.1 x.2⟩, ?_, ?_⟩
  · rw [List.map_map]; exact List.attach_map_val (f := rowIt) ▸ rfl
  · rw [← any_not, List.any_map]
    show (l.attach.any fun x => !itemB x.1) = _
    rw [Bool.eq_iff_iff]; simp

theorem w_XCheck {e : Est} (hf : e.fits) : Fun Tryz.prog 87 [agg (rowSt e)] (int (if estB e then 0 else 31)) := by
 refine fo Tryz.func87 rfl ⟨rfl, rfl⟩ fun M0 w0 => ?_
 have hl1 := hf.le
 have hl2 := hf.lg
 have hl3 := hf.li
 obtain ⟨mi, hmi1, hmi2⟩ := items_rows hf.items
 refine ac ?_
 refine ac ?_
 refine Tr.block (Tr.loopw [(1, _), (7, _), (8, _)] (kk3 rfl) (fun k : Nat => [(9, int ((k : Nat) : Int))]) (fun k : Nat => k ≤ (e.eps).length ∧ (∀ j, j < k → epAt e.eps j = true)) (fun k : Nat => (e.eps).length - k) 0 (⟨Nat.zero_le _, fun j hj => absurd hj (by omega)⟩) ⟨ke rfl, trivial⟩ ?_)
 rintro k ⟨hle_k, hinv_k⟩
 refine ac ?_
 refine Tr.seq ?_
 refine Tr.cn rfl ?_ ?_ <;> intro h1 q1
 have hk_k : k < (e.eps).length := lt_of_dec h1
 obtain ⟨x, hx_k⟩ := at_ hk_k
 have hg := getD_at (d := zeroEp) hx_k
 have hxf := hf.eps x (List.mem_of_getElem? hx_k)
 refine ac ?_
 refine ao ?_
 refine tp rfl (ok_indexAddr rfl Tryz.underlying37 sz32 (vl rfl) (vl rfl) (by omega) (row_at hx_k)) (tp rfl (ok_loadA rfl agg32 sz32 (vl rfl) rfl rfl) ?_)
 refine TO.alloc rfl rfl (by decide) rfl z32 zo32 (fun b1 => ?_)
 refine tm rfl ?_
 refine sf 0 4 ⟨rfl, rfl, rfl⟩ rfl rfl rfl rfl ?_
 refine ao ?_
 refine ac ?_
 refine co rfl (kc1 (w_ECheck hxf.1) rfl rfl) ?_
 refine ac ?_
 refine Ch.cs 17 rfl ?_ ?_ <;> intro h2 q2
 refine ac ?_
 refine wk5 1 7 8 9 32 rfl ?_
 refine ac ?_
 refine ac ?_
 · refine int_eq (if_neg (fun hv => ?_)).symm; have ok := est_iff.1 hv; (have h_ := ok.ep k (by omega); unfold epAt at h_; rw [hg] at h_; simp_all)
 refine ac ?_
 refine Ch.cs 20 rfl ?_ ?_ <;> intro h3 q3
 have hk0 : 0 < k := by simpa using h3
 obtain ⟨y, hy⟩ := at_ (l := e.eps) (k := k - 1) (by omega)
 have hgy := getD_at (d := zeroEp) hy
 refine ac ?_
 refine cy h3 rfl (ok_indexAddr rfl Tryz.underlying37 sz32 (vl rfl) (vl rfl) (by omega) (by rw [show ((k : Nat) : Int) - 1 = ((k - 1 : Nat) : Int) by omega]; exact row_at hy)) ?_
 refine ac ?_
 refine cy h3 rfl (ok_ges rfl (vl rfl) (vl rfl)) ?_
 refine ac ?_
 refine wk5 1 7 8 9 32 rfl ?_
 refine Tr.cn rfl ?_ ?_ <;> intro h4 q4
 refine ac ?_
 refine ac ?_
 · refine int_eq (if_neg (fun hv => ?_)).symm; have ok := est_iff.1 hv; (have h_ := ok.ep k (by omega); unfold epAt at h_; rw [hg, hgy] at h_; simp_all)
 refine ac ?_
 refine ac ?_
 exact Fin.fam_same (k + 1) ⟨⟨hk_k, allI_step hinv_k (by unfold epAt; rw [hg, hgy]; simp_all)⟩, by omega⟩ ⟨⟨_, rfl, int_succ k⟩, ke rfl, ke rfl, ke rfl, trivial⟩
 have hk00 : ¬ 0 < k := by simpa using h3
 refine ac ?_
 refine wk5 1 7 8 9 32 rfl ?_
 refine ac ?_
 refine ac ?_
 exact Fin.fam_same (k + 1) ⟨⟨hk_k, allI_step hinv_k (by unfold epAt; rw [hg]; simp_all)⟩, by omega⟩ ⟨⟨_, rfl, int_succ k⟩, ke rfl, ke rfl, ke rfl, trivial⟩
 have he_k : k = (e.eps).length := by have := ge_of_dec h1; omega
 subst he_k
 have hinv_e := hinv_k
 refine ac ?_
 refine ac ?_
 refine co rfl (ok_call rfl (w_HasIt (g := fun x : {x : Itm // x.name.length ≤ maxLen} => x.1) (l := mi) (p := fun x => !itemB x.1)) ⟨⟨_, rfl, Pr.le_of_eq (by rw [hmi1])⟩, ⟨_, rfl, fn_le_clo (dom := fun x : {x : Itm // x.name.length ≤ maxLen} => [agg (rowIt x.1)]) (res := fun x => bool (!itemB x.1)) e_XCk1 (fun x => w_XCk1 x.2)⟩, trivial⟩) ?_
 refine ac ?_
 refine ac ?_
 refine Ch.cs 38 rfl ?_ ?_ <;> intro h5 q5
 refine ac ?_
 refine wk1 58 rfl ?_
 refine ac ?_
 refine ac ?_
 · refine int_eq (if_neg (fun hv => ?_)).symm; have ok := est_iff.1 hv; (have o1 := ok.e16; have o2 := ok.e40; have o3 := ok.i30; have o4 := ok.it; have o5 := est_edges ok; simp_all)
 refine ac ?_
 refine Ch.cs 44 rfl ?_ ?_ <;> intro h6 q6
 refine ac ?_
 refine wk1 58 rfl ?_
 refine ac ?_
 refine ac ?_
 · refine int_eq (if_neg (fun hv => ?_)).symm; have ok := est_iff.1 hv; (have o1 := ok.e16; have o2 := ok.e40; have o3 := ok.i30; have o4 := ok.it; have o5 := est_edges ok; omega)
 refine ac ?_
 refine Ch.cs 50 rfl ?_ ?_ <;> intro h7 q7
 refine ac ?_
 refine wk1 58 rfl ?_
 refine ac ?_
 refine ac ?_
 · refine int_eq (if_neg (fun hv => ?_)).symm; have ok := est_iff.1 hv; (have o1 := ok.e16; have o2 := ok.e40; have o3 := ok.i30; have o4 := ok.it; have o5 := est_edges ok; omega)
 refine ac ?_
 refine cy h7 rfl (kc2 (w_linked (l := e.edges) (n := e.eps.length)) rfl rfl rfl) ?_
 refine ac ?_
 refine wk1 58 rfl ?_
 refine Tr.cn rfl ?_ ?_ <;> intro h8 q8
 refine ac ?_
 refine ac ?_
 · refine int_eq (if_neg (fun hv => ?_)).symm; have ok := est_iff.1 hv; (have o1 := ok.e16; have o2 := ok.e40; have o3 := ok.i30; have o4 := ok.it; have o5 := est_edges ok; simp_all)
 refine ac ?_
 refine ac ?_
 refine ac ?_
 · refine int_eq (if_pos ?_).symm; unfold estB; simp_all [allI_iff]; omega
end Go.Proofs.YtppeeogffbpcbaaGreat
namespace Go.Proofs.YtppeeogffbpcbaaGreat
open Go Go.RowKit Cp
theorem eqv80 {d : Nat} {w : World} {x0 y0 : Int} {x1 y1 : Int} : (Op.equalIn (d + 2) 80 (.agg #[.int .i64 x0, .int .i64 x1]) (.agg #[.int .i64 y0, .int .i64 y1])).run Tryz.prog w = .ok (decide (x0 = y0 ∧ x1 = y1)) w := by
  have h := eqS (w := w) (d := d + 1) (xs := #[.int .i64 x0, .int .i64 x1]) (ys := #[.int .i64 y0, .int .i64 y1]) Tryz.underlying80 (by kernel_rfl) (eqF_cons (by decide) (part_leaf one3 rfl) (part_leaf one3 rfl) (eq_intL (d := d + 0) Tryz.underlying3) (eqF_cons (by decide) (part_leaf one3 rfl) (part_leaf one3 rfl) (eq_intL (d := d + 0) Tryz.underlying3) (eqF_nil)))
  refine h.trans (congrArg (fun b => Result.ok b w) ?_)
  rw [Bool.eq_iff_iff]; simp [and_assoc]
theorem ok_ne80 {E : Env} {I : Asn} {o : Oper} {u : TypeId} {x y : Operand} {x0 y0 : Int} {x1 y1 : Int} (ho : o.op = .binOp .neq 80 x y u) (hx : VL E x (agg [is (.int .i64 x0), is (.int .i64 x1)])) (hy : VL E y (agg [is (.int .i64 y0), is (.int .i64 y1)])) : OpOK Tryz.prog I o E (bool (!decide (x0 = y0 ∧ x1 = y1))) :=
  ok_neagg [.int .i64 x0, .int .i64 x1] [.int .i64 y0, .int .i64 y1] ho hx hy (by kernel_rfl) (fun w => by rw [show Op.equal 80 _ _ = Op.equalIn (9998 + 2) 80 _ _ from rfl]; exact eqv80)
theorem eqv152 {d : Nat} {w : World} {x0 y0 : Int} {x1 y1 : Int} {x2 y2 : Int} : (Op.equalIn (d + 3) 152 (.agg #[.int .i64 x0, .int .i64 x1, .int .i64 x2]) (.agg #[.int .i64 y0, .int .i64 y1, .int .i64 y2])).run Tryz.prog w = .ok (decide (x0 = y0 ∧ x1 = y1 ∧ x2 = y2)) w := by
  have h := eqS (w := w) (d := d + 2) (xs := #[.int .i64 x0, .int .i64 x1, .int .i64 x2]) (ys := #[.int .i64 y0, .int .i64 y1, .int .i64 y2]) Tryz.underlying152 (by kernel_rfl) (eqF_cons (by decide) (part_agg agg24 sz24 rfl) (part_agg agg24 sz24 rfl) (eqv24 (d := d + 0) (w := w)) (eqF_cons (by decide) (part_leaf one3 rfl) (part_leaf one3 rfl) (eq_intL (d := d + 1) Tryz.underlying3) (eqF_nil)))
  refine h.trans (congrArg (fun b => Result.ok b w) ?_)
  rw [Bool.eq_iff_iff]; simp [and_assoc]
theorem ok_ne152 {E : Env} {I : Asn} {o : Oper} {u : TypeId} {x y : Operand} {x0 y0 : Int} {x1 y1 : Int} {x2 y2 : Int} (ho : o.op = .binOp .neq 152 x y u) (hx : VL E x (agg [is (.int .i64 x0), is (.int .i64 x1), is (.int .i64 x2)])) (hy : VL E y (agg [is (.int .i64 y0), is (.int .i64 y1), is (.int .i64 y2)])) : OpOK Tryz.prog I o E (bool (!decide (x0 = y0 ∧ x1 = y1 ∧ x2 = y2))) :=
  ok_neagg [.int .i64 x0, .int .i64 x1, .int .i64 x2] [.int .i64 y0, .int .i64 y1, .int .i64 y2] ho hx hy (by kernel_rfl) (fun w => by rw [show Op.equal 152 _ _ = Op.equalIn (9997 + 3) 152 _ _ from rfl]; exact eqv152)
theorem w_SEqG {a b : List (Edg)}  : Fun Tryz.prog 92 [edgs a, edgs b] (bool (decide (a = b))) := by
 refine fo Tryz.func92 rfl ⟨rfl, rfl⟩ fun M0 w0 => (Tr.lenm 0 rfl fun hlm_0 => (Tr.lenm 1 rfl fun hlm_1 => ?_))
 refine ac ?_
 refine ac ?_
 refine Tr.cn rfl ?_ ?_ <;> intro h1 q1
 have hne : ¬ a.length = b.length := by simp_all; omega
 refine ac ?_
 refine ac ?_
 · refine bool_eq ?_; symm; rw [decide_eq_false_iff_not]; rintro rfl; exact hne rfl
 have hll : a.length = b.length := by simp_all; omega
 refine ac ?_
 refine ac ?_
 refine Tr.block (Tr.loopw [(0, _), (1, _), (12, _)] (kk3 rfl) (fun k : Nat => [(13, int ((k : Nat) : Int))]) (fun k : Nat => k ≤ (a).length ∧ (a.take k = b.take k)) (fun k : Nat => (a).length - k) 0 (⟨Nat.zero_le _, rfl⟩) ⟨ke rfl, trivial⟩ ?_)
 rintro k ⟨hle_k, hinv_k⟩
 refine ac ?_
 refine Tr.seq ?_
 refine Tr.cn rfl ?_ ?_ <;> intro h2 q2
 have hk_k : k < (a).length := lt_of_dec h2
 obtain ⟨x, hx_k⟩ := at_ hk_k
 obtain ⟨y, hy⟩ := at_ (l := b) (k := k) (by omega)
 refine ac ?_
 refine ac ?_
 refine ac ?_
 refine co rfl (ok_indexAddr rfl Tryz.underlying38 sz80 (vl rfl) (vl rfl) (by omega) (row_at hx_k)) ?_
 refine ac ?_
 refine co rfl (ok_indexAddr rfl Tryz.underlying38 sz80 (vl rfl) (vl rfl) (by omega) (row_at hy)) (co rfl (ok_loadA rfl agg80 sz80 (vl rfl) rfl rfl) (co rfl (ok_ne80 rfl (vl rfl) (vl rfl)) ?_))
 refine ac ?_
 refine wk5 0 1 12 13 24 rfl ?_
 refine Tr.cn rfl ?_ ?_ <;> intro h3 q3
 refine ac ?_
 refine ac ?_
 · refine bool_eq ?_; symm; rw [decide_eq_false_iff_not]; refine sameN hx_k hy ?_; rintro rfl; simp_all
 refine ac ?_
 refine ac ?_
 exact Fin.fam_same (k + 1) ⟨⟨hk_k, sameY hx_k hy hinv_k (by cases x; cases y; simp_all)⟩, by omega⟩ ⟨⟨_, rfl, int_succ k⟩, ke rfl, ke rfl, ke rfl, trivial⟩
 have he_k : k = (a).length := by have := ge_of_dec h2; omega
 subst he_k
 refine ac ?_
 refine ac ?_
 refine ac ?_
 · refine bool_eq ?_; symm; rw [decide_eq_true_eq]; exact sameA hll hinv_k
theorem w_SEqL {a b : List (Lnk)}  : Fun Tryz.prog 140 [lnks a, lnks b] (bool (decide (a = b))) := by
 refine fo Tryz.func140 rfl ⟨rfl, rfl⟩ fun M0 w0 => (Tr.lenm 0 rfl fun hlm_0 => (Tr.lenm 1 rfl fun hlm_1 => ?_))
 refine ac ?_
 refine ac ?_
 refine Tr.cn rfl ?_ ?_ <;> intro h1 q1
 have hne : ¬ a.length = b.length := by simp_all; omega
 refine ac ?_
 refine ac ?_
 · refine bool_eq ?_; symm; rw [decide_eq_false_iff_not]; rintro rfl; exact hne rfl
 have hll : a.length = b.length := by simp_all; omega
 refine ac ?_
 refine ac ?_
 refine Tr.block (Tr.loopw [(0, _), (1, _), (12, _)] (kk3 rfl) (fun k : Nat => [(13, int ((k : Nat) : Int))]) (fun k : Nat => k ≤ (a).length ∧ (a.take k = b.take k)) (fun k : Nat => (a).length - k) 0 (⟨Nat.zero_le _, rfl⟩) ⟨ke rfl, trivial⟩ ?_)
 rintro k ⟨hle_k, hinv_k⟩
 refine ac ?_
 refine Tr.seq ?_
 refine Tr.cn rfl ?_ ?_ <;> intro h2 q2
 have hk_k : k < (a).length := lt_of_dec h2
 obtain ⟨x, hx_k⟩ := at_ hk_k
 obtain ⟨y, hy⟩ := at_ (l := b) (k := k) (by omega)
 refine ac ?_
 refine ac ?_
 refine ac ?_
 refine co rfl (ok_indexAddr rfl Tryz.underlying105 sz152 (vl rfl) (vl rfl) (by omega) (row_at hx_k)) ?_
 refine ac ?_
 refine co rfl (ok_indexAddr rfl Tryz.underlying105 sz152 (vl rfl) (vl rfl) (by omega) (row_at hy)) (co rfl (ok_loadA rfl agg152 sz152 (vl rfl) rfl rfl) (co rfl (ok_ne152 rfl (vl rfl) (vl rfl)) ?_))
 refine ac ?_
 refine wk5 0 1 12 13 24 rfl ?_
 refine Tr.cn rfl ?_ ?_ <;> intro h3 q3
 refine ac ?_
 refine ac ?_
 · refine bool_eq ?_; symm; rw [decide_eq_false_iff_not]; refine sameN hx_k hy ?_; rintro rfl; simp_all
 refine ac ?_
 refine ac ?_
 exact Fin.fam_same (k + 1) ⟨⟨hk_k, sameY hx_k hy hinv_k (by cases x; cases y; simp_all)⟩, by omega⟩ ⟨⟨_, rfl, int_succ k⟩, ke rfl, ke rfl, ke rfl, trivial⟩
 have he_k : k = (a).length := by have := ge_of_dec h2; omega
 subst he_k
 refine ac ?_
 refine ac ?_
 refine ac ?_
 · refine bool_eq ?_; symm; rw [decide_eq_true_eq]; exact sameA hll hinv_k
theorem w_sameItem {a b : Itm}  : Fun Tryz.prog 94 [agg (rowIt a), agg (rowIt b)] (bool (decide (a = b))) := by
 refine fo Tryz.func94 rfl ⟨rfl, rfl⟩ fun M0 w0 => ?_
 refine ac ?_
 refine ac ?_
 refine Ch.cs 10 rfl ?_ ?_ <;> intro h1 q1
 refine ac ?_
 refine Ch.cs 17 rfl ?_ ?_ <;> intro h2 q2
 refine ac ?_
 refine Ch.cs 24 rfl ?_ ?_ <;> intro h3 q3
 refine ac ?_
 refine Ch.cs 31 rfl ?_ ?_ <;> intro h4 q4
 refine ac ?_
 refine cy h4 rfl (kc2 (w_SEqL) rfl rfl rfl) ?_
 refine ac ?_
 refine wk1 4 rfl ?_
 refine ac ?_
 · refine bool_eq ?_; cases a; cases b; simp_all [Bool.beq_eq_decide_eq]
 refine ac ?_
 refine wk1 4 rfl ?_
 refine ac ?_
 · refine bool_eq ?_; cases a; cases b; simp_all [Bool.beq_eq_decide_eq]
 refine ac ?_
 refine wk1 4 rfl ?_
 refine ac ?_
 · refine bool_eq ?_; cases a; cases b; simp_all [Bool.beq_eq_decide_eq]
 refine ac ?_
 refine wk1 4 rfl ?_
 refine ac ?_
 · refine bool_eq ?_; cases a; cases b; simp_all [Bool.beq_eq_decide_eq]
 refine ac ?_
 refine wk1 4 rfl ?_
 refine ac ?_
 · refine bool_eq ?_; cases a; cases b; simp_all [Bool.beq_eq_decide_eq]
theorem e_sameItem : Entry Tryz.prog 94 := ⟨_, Tryz.func94, rfl, rfl⟩
theorem w_EqFIt {a b : List Itm}  : Fun Tryz.prog 93 [itms a, itms b, clo Tryz.prog (fun p : Itm × Itm => [agg (rowIt p.1), agg (rowIt p.2)]) (fun p => bool (decide (p.1 = p.2)))] (bool (decide (a = b))) := by
 refine fo Tryz.func93 rfl ⟨rfl, rfl⟩ fun M0 w0 => (Tr.lenm 0 rfl fun hlm_0 => (Tr.lenm 1 rfl fun hlm_1 => ?_))
 refine ac ?_
 refine ac ?_
 refine Tr.cn rfl ?_ ?_ <;> intro h1 q1
 have hne : ¬ a.length = b.length := by simp_all; omega
 refine ac ?_
 refine ac ?_
 · refine bool_eq ?_; symm; rw [decide_eq_false_iff_not]; rintro rfl; exact hne rfl
 have hll : a.length = b.length := by simp_all; omega
 refine ac ?_
 refine ac ?_
 refine Tr.block (Tr.loopw [(1, _), (2, _), (15, _), (16, _)] (kk4 rfl) (fun k : Nat => [(17, int ((k : Nat) : Int))]) (fun k : Nat => k ≤ (a).length ∧ (a.take k = b.take k)) (fun k : Nat => (a).length - k) 0 (⟨Nat.zero_le _, rfl⟩) ⟨ke rfl, trivial⟩ ?_)
 rintro k ⟨hle_k, hinv_k⟩
 refine ac ?_
 refine Tr.seq ?_
 refine Tr.cn rfl ?_ ?_ <;> intro h2 q2
 have hk_k : k < (a).length := lt_of_dec h2
 obtain ⟨x, hx_k⟩ := at_ hk_k
 obtain ⟨y, hy⟩ := at_ (l := b) (k := k) (by omega)
 refine ac ?_
 refine ao ?_
 refine tp rfl (ok_indexAddr rfl Tryz.underlying39 sz107 (vl rfl) (vl rfl) (by omega) (row_at hx_k)) (tp rfl (ok_loadA rfl agg107 sz107 (vl rfl) rfl rfl) ?_)
 refine TO.alloc rfl rfl (by decide) rfl z107 zo107 (fun b1 => ?_)
 refine tm rfl ?_
 refine sf 0 8 ⟨rfl, rfl, rfl⟩ rfl rfl rfl rfl ?_
 refine ao ?_
 refine ao ?_
 refine tp rfl (ok_indexAddr rfl Tryz.underlying39 sz107 (vl rfl) (vl rfl) (by omega) (row_at hy)) (tp rfl (ok_loadA rfl agg107 sz107 (vl rfl) rfl rfl) ?_)
 refine TO.alloc rfl rfl (by decide) rfl z107 zo107 (fun b2 => ?_)
 refine sf 0 9 ⟨rfl, rfl, rfl⟩ rfl rfl rfl rfl ?_
 refine ao ?_
 refine wk7 1 2 8 9 15 16 17 rfl ?_
 refine ac ?_
 refine co rfl (ok_callc (x, y) rfl (vl rfl) ⟨ke rfl, ke rfl, trivial⟩) ?_
 refine ac ?_
 refine Tr.cn rfl ?_ ?_ <;> intro h3 q3
 refine ac ?_
 refine ac ?_
 · refine bool_eq ?_; symm; rw [decide_eq_false_iff_not]; refine sameN hx_k hy ?_; rintro rfl; simp_all
 refine ac ?_
 refine ac ?_
 exact Fin.fam_same (k + 1) ⟨⟨hk_k, sameY hx_k hy hinv_k (by simp_all)⟩, by omega⟩ ⟨⟨_, rfl, int_succ k⟩, ke rfl, ke rfl, ke rfl, ke rfl, trivial⟩
 have he_k : k = (a).length := by have := ge_of_dec h2; omega
 subst he_k
 refine ac ?_
 refine ac ?_
 refine ac ?_
 · refine bool_eq ?_; symm; rw [decide_eq_true_eq]; exact sameA hll hinv_k
theorem w_EsSame {a b : Est}  : Fun Tryz.prog 32 [agg (rowSt a), agg (rowSt b)] (bool (decide (a = b))) := by
 refine fo Tryz.func32 rfl ⟨rfl, rfl⟩ fun M0 w0 => ?_
 refine ac ?_
 refine ac ?_
 refine co rfl (ok_call rfl (w_EqFE) ⟨ke rfl, ke rfl, ⟨_, rfl, fn_le_clo (dom := fun p : Ept × Ept => [agg (rowEp p.1), agg (rowEp p.2)]) (res := fun p => bool (decide (p.1 = p.2))) e_ESame (fun p => w_ESame (a := p.1) (b := p.2))⟩, trivial⟩) ?_
 refine cm rfl ?_
 refine Ch.cs 10 rfl ?_ ?_ <;> intro h1 q1
 refine ac ?_
 refine cy h1 rfl (kc2 (w_SEqG) rfl rfl rfl) ?_
 refine ac ?_
 refine Ch.cs 17 rfl ?_ ?_ <;> intro h2 q2
 refine ac ?_
 refine cy h2 rfl (ok_call rfl (w_EqFIt) ⟨ke rfl, ke rfl, ⟨_, rfl, fn_le_clo (dom := fun p : Itm × Itm => [agg (rowIt p.1), agg (rowIt p.2)]) (res := fun p => bool (decide (p.1 = p.2))) e_sameItem (fun p => w_sameItem (a := p.1) (b := p.2))⟩, trivial⟩) ?_
 refine ac ?_
 refine wk1 4 rfl ?_
 refine ac ?_
 · refine bool_eq ?_; cases a; cases b; simp_all [Bool.beq_eq_decide_eq]
 refine ac ?_
 refine wk1 4 rfl ?_
 refine ac ?_
 · refine bool_eq ?_; cases a; cases b; simp_all [Bool.beq_eq_decide_eq]
 refine ac ?_
 refine wk1 4 rfl ?_
 refine ac ?_
 · refine bool_eq ?_; cases a; cases b; simp_all [Bool.beq_eq_decide_eq]
def nameIs (n : List UInt8) (x : Ept) : Bool := decide (x.name = n)
def idxN (n : List UInt8) (l : List Ept) : Int := idx (nameIs n) l

theorem w_EsIdx1 {x : Ept} {n : List UInt8}  : Fun Tryz.prog 101 [agg (rowEp x), ref [str n]] (bool (nameIs n x)) := by
 refine fo Tryz.func101 rfl ⟨rfl, rfl⟩ fun M0 w0 => ?_
 refine ac ?_
 refine ac ?_
 refine ac ?_
 · exact Pr.le_refl _
theorem e_EsIdx1 : Entry Tryz.prog 101 := ⟨_, Tryz.func101, rfl, rfl⟩
theorem w_EsIndex {e : Est} {n : List UInt8}  : Fun Tryz.prog 44 [agg (rowSt e), str n] (tup [int (max (idxN n e.eps) 0), bool (decide (0 ≤ idxN n e.eps))]) := by
 refine fo Tryz.func44 rfl ⟨rfl, rfl⟩ fun M0 w0 => ?_
 refine ac ?_
 refine ac ?_
 refine co rfl (ok_call rfl (w_IdxEp (g := fun x : Ept => x) (l := e.eps) (p := nameIs n)) ⟨ke rfl, ⟨_, rfl, fn_le_clo (dom := fun x : Ept => [agg (rowEp x)]) (res := fun x => bool (nameIs n x)) e_EsIdx1 (fun x => w_EsIdx1 (n := n) (x := x))⟩, trivial⟩) ?_
 refine ac ?_
 refine ac ?_
 refine co rfl (ok_max rfl (vl rfl) (vl rfl)) ?_
 refine ac ?_
 refine wk2 4 5 rfl (Tr.ret (Fin.ret2 rfl (OutW.bse _ _) rfl ?_ rfl ?_))
 · exact Pr.le_refl _
 · exact bool_eq (by unfold idxN; simp)
def setAt (n : Int) (l : List Int) (i : Nat) : Bool := decide (0 ≤ l[i]?.getD 0) && decide (l[i]?.getD 0 < n) && (decide (i = 0) || decide (l[i - 1]?.getD 0 < l[i]?.getD 0))
/-- A set: ascending, below n. -/
def setB (n : Int) (l : List Int) : Bool := allI (setAt n l) l.length

end Go.Proofs.YtppeeogffbpcbaaGreat
namespace Go.Proofs.YtppeeogffbpcbaaGreat
open Go Go.RowKit Cp

/-- An estate of some size. -/
structure Est.sz (e : Est) (n : Nat) : Prop where
  eps : ∀ x ∈ e.eps, x.sz n
  items : ∀ x ∈ e.items, x.name.length ≤ maxLen ∧ x.links.length ≤ 1000000
  le : e.eps.length ≤ 1000000
  lg : e.edges.length ≤ 1000000
  li : e.items.length ≤ 1000000
theorem Est.sz.fits {e : Est} {n : Nat} (h : e.sz n) (hn : n ≤ 1000000) : e.fits :=
  ⟨fun x hx => ⟨(h.eps x hx).fits, (h.eps x hx).small hn⟩, fun x hx => (h.items x hx).1, by have := h.le; omega, by have := h.lg; omega, by have := h.li; omega⟩
theorem snocT {β γ : Type} {f : β → γ} {l : List β} {k : Nat} {x : β} (h : l[k]? = some x) : (l.take k).map f ++ [f x] = (l.take (k + 1)).map f := by rw [List.take_add_one, h, List.map_append]; rfl

theorem w_EsCopyV {e : Est} {n : Nat} (hz : e.sz n) (hn : n ≤ 1000000) : FunV Tryz.prog 88 [agg (rowSt e)] (fun x => agg [is x, edgs e.edges, itms e.items]) (fun x => [oweRes 32 9 (e.eps.map rowEp) x]) := by
 refine FunV.of Tryz.func88 rfl rfl (by exact Nat.le_of_ble_eq_true rfl) fun M0 w0 S rs M1 w1 => ?_
 have hl1 := hz.le
 have hl2 := hz.lg
 have hl3 := hz.li
 refine Tr.seq (Tr.regT (tp rfl (ok_box rfl (VL.le (vl rfl) (agg_cellsP _))) ?_))
 refine TO.alloc rfl rfl (by decide) rfl z41 zo41 (fun b1 => ?_)
 refine ao ?_
 refine ao ?_
 refine tp rfl (ok_appF rfl Tryz.underlying38 sz80 by80 z80 rfl (by decide) (vl rfl) (vl rfl) (by simp only [List.length_map, List.length_append, List.length_cons, List.length_nil, List.length_take]; unfold maxLen; omega) (by simp only [List.length_map, List.length_append, List.length_cons, List.length_nil, List.length_take]; omega)) ?_
 refine tp rfl (ok_build (rows := [(1, [_])]) rfl bl41 zo41 ⟨⟨rfl, (VL.le (vl rfl) (one_cellsP _))⟩, trivial⟩ rfl) ?_
 refine TO.alloc rfl rfl (by decide) rfl z41 zo41 (fun b2 => ?_)
 refine TO.store_all 0 rfl rfl rfl (vl rfl) (VL.le (vl rfl) (agg_cellsP _)) rfl sz41 rfl rfl ?_
 refine ao ?_
 refine ac ?_
 refine wk6 1 2 3 14 15 16 rfl (Tr.block (Tr.reC 0 [andIs (.slice none 0 0) (lens ((e.eps.take 0).map rowEp).length), edgs e.edges, is (.slice none 0 0)] rfl ⟨lens_nil rfl, Pr.le_of_eq rfl, Pr.le_refl _, trivial⟩ (Tr.addown 32 9 (Tr.loopV1 [(1, _), (2, _), (3, _), (14, _), (15, _)] ⟨ke rfl, ke rfl, ke rfl, ke rfl, ke rfl, trivial⟩ (fun k v => [(16, int ((k : Nat) : Int))]) (fun k v => Hp M0 w0 S (ownRes 32 9 ((e.eps.take k).map rowEp) v :: cellsRes true b2 41 [andIs v (lens ((e.eps.take k).map rowEp).length), edgs e.edges, is (.slice none 0 0)] :: cellsRes true b1 41 (([.slice none 0 0, .slice none 0 0, .slice none 0 0] : List Value).map is) :: extRes M1 w1 :: rs)) (fun k : Nat => k ≤ (e.eps).length) (fun k : Nat => (e.eps).length - k) 0 (.slice none 0 0) (Nat.zero_le _) ⟨ke rfl, trivial⟩ (fun _ _ h => h) ?_))))
 rintro k v hle_k
 refine ac ?_
 refine Tr.seq ?_
 refine Tr.cn rfl ?_ ?_ <;> intro h1 q1
 have hk_k : k < (e.eps).length := lt_of_dec h1
 obtain ⟨x, hx_k⟩ := at_ hk_k
 have hxs := (hz.eps x (List.mem_of_getElem? hx_k)).small hn
 refine ac ?_
 refine Tr.seq (Tr.block (Tr.seq (Tr.regT (tp rfl (ok_indexAddr rfl Tryz.underlying37 sz32 (vl rfl) (vl rfl) (by omega) (by exact row_at (by assumption))) ?_))))
 refine tp rfl (ok_loadA rfl agg32 sz32 (vl rfl) rfl rfl) ?_
 refine TO.alloc rfl rfl (by decide) rfl z32 zo32 (fun b3 => ?_)
 refine sf 0 5 ⟨rfl, rfl, rfl⟩ rfl rfl rfl rfl ?_
 refine ao ?_
 refine Tr.pad (Tr.rx ?_)
 refine ax ?_
 refine xo rfl (fun _ => kc1 (w_CopyEz hxs) rfl rfl) (xo rfl (fun _ => ok_buildSlice (xs := [.tmp 23]) (rows := [_]) rfl rfl Tryz.underlying37 sz32 z32 rfl (by decide) ⟨⟨(by exact rfl), (VL.le (vl rfl) (agg_cellsP _))⟩, trivial⟩ (by decide)) ?_)
 refine Cx.ef 1 rfl rfl (by decide) (ef_appmut rfl rfl (by decide) rfl Tryz.underlying37 sz32 by32 z32 rfl (by decide) (by decide) (vl rfl) ⟨_, rfl, full_le _ _⟩ (map_rows fun _ => rfl) (Nat.zero_lt_succ _) (by simp only [List.length_map, List.length_take, List.length_cons, List.length_nil]; unfold maxLen; omega) (by simp only [List.length_map, List.length_take, List.length_cons, List.length_nil]; omega)) ?_
 refine xo rfl (fun _ => okp_fieldAddr rfl fo41_0 (vl rfl)) (Cx.ef0 2 rfl rfl (ef_storeS rfl rfl rfl (vl rfl) rfl sz37 (by exact Nat.le_of_ble_eq_true rfl)) ?_)
 refine Cx.nil ⟨by kernel_rfl, ?_⟩
 refine FinX.open2 1 2 25 rfl rfl (by decide) rfl (fun v1 => ?_)
 refine FinX.done al5 ?_
 refine ac ?_
 refine Tr.drop 0 (wk6 1 2 3 14 15 16 rfl ?_)
 refine ac ?_
 refine Fin.reC 1 [andIs v1 (lens ((e.eps.take (k + 1)).map rowEp).length), edgs e.edges, is (.slice none 0 0)] rfl ⟨lens_le (by simp only [List.length_map, List.length_append, List.length_take, List.length_cons, List.length_nil]; omega), Pr.le_refl _, Pr.le_refl _, trivial⟩ ?_
 rw [snocT (f := rowEp) hx_k]
 exact Fin.famV1 (k + 1) v1 (⟨hk_k, by omega⟩) ⟨⟨_, rfl, int_succ k⟩, ke rfl, ke rfl, ke rfl, ke rfl, ke rfl, trivial⟩ (fun _ _ h => h)
 have he_k : k = (e.eps).length := by have := ge_of_dec h1; omega
 subst he_k
 rw [List.take_length]
 refine ac ?_
 refine ac ?_
 refine Tr.block (Tr.reC 1 [andIs v (lens (e.eps.map rowEp).length), edgs e.edges, andIs (.slice none 0 0) (itms (e.items.take 0))] rfl ⟨Pr.le_refl _, Pr.le_refl _, own_nil rfl, trivial⟩ (Tr.addnil 107 5 (Tr.loopV1 [(2, _), (3, _), (29, _), (30, _)] ⟨ke rfl, ke rfl, ke rfl, ke rfl, trivial⟩ (fun m u => [(31, int ((m : Nat) : Int))]) (fun m u => Hp M0 w0 S (appRes 107 5 u :: ownRes 32 9 (e.eps.map rowEp) v :: cellsRes true b2 41 [andIs v (lens (e.eps.map rowEp).length), edgs e.edges, andIs u (itms (e.items.take m))] :: cellsRes true b1 41 (([.slice none 0 0, .slice none 0 0, .slice none 0 0] : List Value).map is) :: extRes M1 w1 :: rs)) (fun m : Nat => m ≤ (e.items).length) (fun m : Nat => (e.items).length - m) 0 (.slice none 0 0) (Nat.zero_le _) ⟨ke rfl, trivial⟩ (fun _ _ h => h) ?_)))
 rintro m u hle_m
 refine ac ?_
 refine Tr.seq ?_
 refine Tr.cn rfl ?_ ?_ <;> intro h2 q2
 have hk_m : m < (e.items).length := lt_of_dec h2
 obtain ⟨y, hx_m⟩ := at_ hk_m
 have hyl := (hz.items y (List.mem_of_getElem? hx_m)).2
 refine ac ?_
 refine Tr.seq (Tr.block (Tr.seq (Tr.regT (tp rfl (ok_indexAddr rfl Tryz.underlying39 sz107 (vl rfl) (vl rfl) (by omega) (by exact row_at (by assumption))) ?_))))
 refine tp rfl (ok_loadA rfl agg107 sz107 (vl rfl) rfl rfl) ?_
 refine TO.alloc rfl rfl (by decide) rfl z107 zo107 (fun b4 => ?_)
 refine TO.store_all 0 rfl rfl rfl (vl rfl) (VL.le (vl rfl) (agg_cellsP _)) rfl sz107 rfl rfl ?_
 refine ao ?_
 refine ao ?_
 refine tp rfl (ok_appF rfl Tryz.underlying105 sz152 by152 z152 rfl (by decide) (vl rfl) (vl rfl) (by simp only [List.length_map, List.length_append, List.length_cons, List.length_nil, List.length_take]; unfold maxLen; omega) (by simp only [List.length_map, List.length_append, List.length_cons, List.length_nil, List.length_take]; omega)) ?_
 refine tp rfl (okp_fieldAddr rfl fo107_3 (vl rfl)) (TO.ef0 0 rfl rfl (ef_store rfl rfl (vl rfl) (VL.le (vl rfl) (one_cellsP _)) sz105 rfl (by exact Nat.le_of_ble_eq_true rfl) rfl) ?_)
 refine ao ?_
 refine wk6 2 3 7 29 30 31 rfl ?_
 refine ao ?_
 refine TO.efs 1 rfl rfl (by decide) (ef_append rfl rfl (by decide) rfl Tryz.underlying39 sz107 by107 z107 rfl (by decide) ⟨_, rfl, andIs_le _ _⟩ ⟨_, rfl, full_le _ _⟩ (by simp only [List.length_map, List.length_append, List.length_cons, List.length_nil, List.length_take]; unfold maxLen; omega) (by simp only [List.length_map, List.length_append, List.length_cons, List.length_nil, List.length_take]; omega) (appR_is (by exact List.Mem.head _) ⟨_, rfl, andIs_is _ _⟩)) (fun v2 => ?_)
 refine tp rfl (okp_fieldAddr rfl fo41_2 (vl rfl)) (TO.ef0 3 rfl rfl (ef_store rfl rfl (vl rfl) (VL.le (vl rfl) (one_cellsP _)) sz39 rfl (by exact Nat.le_of_ble_eq_true rfl) rfl) ?_)
 refine ao ?_
 refine Tr.drop 0 ?_
 refine ac ?_
 refine Fin.reC 2 [andIs v (lens (e.eps.map rowEp).length), edgs e.edges, andIs v2 (itms (e.items.take (m + 1)))] rfl ⟨Pr.le_refl _, Pr.le_refl _, own_le (snocT (f := rowIt) hx_m), trivial⟩ (Fin.famV1 (m + 1) v2 (⟨hk_m, by omega⟩) ⟨⟨_, rfl, int_succ m⟩, ke rfl, ke rfl, ke rfl, ke rfl, trivial⟩ (fun _ _ h => h))
 have he_m : m = (e.items).length := by have := ge_of_dec h2; omega
 subst he_m
 refine ac ?_
 refine ao ?_
 refine TO.store_all 3 rfl rfl rfl (vl rfl) (VL.le (vl rfl) (agg_cellsP _)) rfl sz41 rfl rfl ?_
 refine ao ?_
 refine Tr.ret (Fin.toOwe 1 rfl (Fin.drop 0 (Fin.drop 1 (Fin.swap01 (Fin.retV v [_] rfl (RVal.cell 0 rfl rfl agg41 sz41 rfl (Pr.le_refl _)) ?_ (List.Perm.refl _))))))
 · exact agg_le ⟨andIs_is _ _, Pr.le_refl _, Pr.le_trans (andIs_le _ _) (Pr.le_of_eq (by rw [List.take_length])), trivial⟩
/-- What a change makes of endpoints. -/
def apE (l : List Ept) (c : Chg) : List Ept × Int :=
  if c.endpoint < 0 ∨ ((l.length : Nat) : Int) ≤ c.endpoint then (l, 40)
  else match l[c.endpoint.toNat]? with
    | none => (l, 40)
    | some x => if (doneR x c).2.2 = 0 then (l.set c.endpoint.toNat (doneR x c).1, 0) else (l, (doneR x c).2.2)
theorem apE_bad {l : List Ept} {c : Chg} (h : c.endpoint < 0 ∨ ((l.length : Nat) : Int) ≤ c.endpoint) : apE l c = (l, 40) := if_pos h
theorem apE_at {l : List Ept} {c : Chg} {x : Ept} (h : ¬ (c.endpoint < 0 ∨ ((l.length : Nat) : Int) ≤ c.endpoint)) (hx : l[c.endpoint.toNat]? = some x) : apE l c = if (doneR x c).2.2 = 0 then (l.set c.endpoint.toNat (doneR x c).1, 0) else (l, (doneR x c).2.2) := by
  unfold apE; rw [if_neg h, hx]

theorem w_Esapply {l : List Ept} {c : Chg} {n eb : Nat} {v : Value} {p1 p2 : Pr} (hz : ∀ x ∈ l, x.sz n) (hn : n ≤ 900000) (hl : l.length ≤ 1000000) (hc : c.idn.fits ∧ c.idn.small) : FunD Tryz.prog 89 [ptr eb 0, agg (rowChg c)] [cellsRes true eb 41 [is v, p1, p2], oweRes 32 9 (l.map rowEp) v] (int (apE l c).2) [cellsRes true eb 41 [is v, p1, p2], oweRes 32 9 ((apE l c).1.map rowEp) v] := by
 refine FunD.of Tryz.func89 rfl rfl (by exact Nat.le_of_ble_eq_true rfl) fun M0 w0 S rs M1 w1 => (Tr.seq ?_)
 have hml : (l.map rowEp).length = l.length := List.length_map _
 refine ac ?_
 refine ac ?_
 refine Ch.cs 10 rfl ?_ ?_ <;> intro h1 q1
 refine ac ?_
 refine wk3 0 3 19 rfl ?_
 refine ac ?_
 refine Tr.ret (Fin.then_ret ?_)
 rw [apE_bad (l := l) (c := c) (by omega)]
 refine Fin.retD rfl (RVal.tmp rfl (Pr.le_refl _)) ?_ (List.Perm.refl _)
 · exact Pr.le_refl _
 refine ac ?_
 refine cy h1 rfl (ok_rd 1 rfl (rd_lenW rfl Tryz.underlying37 (vl rfl))) ?_
 refine ac ?_
 refine wk3 0 3 19 rfl ?_
 refine Tr.cn rfl ?_ ?_ <;> intro h2 q2
 have hA := apE_bad (l := l) (c := c) (by omega)
 refine ac ?_
 refine Tr.ret (Fin.then_ret ?_)
 rw [hA]
 refine Fin.retD rfl (RVal.tmp rfl (Pr.le_refl _)) ?_ (List.Perm.refl _)
 · exact Pr.le_refl _
 obtain ⟨x, hx⟩ := at_ (l := l) (k := c.endpoint.toNat) (by omega)
 have hA := apE_at (l := l) (c := c) (by omega) hx
 have hlt := lt_of_at hx
 refine ac ?_
 refine Tr.seq (Tr.pad (Tr.rx ?_))
 refine ax ?_
 refine xrd 2 rfl rfl (rd_elp rfl Tryz.underlying37 sz32 (vl rfl) (vl rfl) (by omega) (by rw [List.length_map]; omega)) ?_
 refine xrd 2 rfl rfl (rd_elload rfl agg32 sz32 (vl rfl) (map_rows fun _ => rfl) (by rw [List.getElem?_map, hx]; rfl)) ?_
 refine xo rfl (fun _ => ok_loadA rfl agg29 sz29 (vl rfl) rfl rfl) ?_
 refine xo rfl (fun _ => kc2 (w_Apply24 (hz x (List.mem_of_getElem? hx)).fits ((hz x (List.mem_of_getElem? hx)).small (by omega)) hc.1 hc.2) rfl rfl rfl) ?_
 refine ax ?_
 refine Cx.ef 0 rfl rfl (by decide) (ef_allocX rfl rfl (by decide) rfl z32 zo32) (Cx.ef0 0 rfl rfl (ef_storeX rfl rfl rfl rfl (VL.le (vl rfl) (agg_cellsP _)) sz32 rfl rfl) (xm rfl ?_))
 refine Cx.nil ⟨by kernel_rfl, ?_⟩
 refine FinX.open_ 0 5 rfl rfl (fun v1 => ?_)
 refine FinX.done al4 (Fin.opn 5 0 _ rfl rfl (fun _ => rfl) (fun b1 => ?_))
 refine Fin.go (wk4 0 3 5 6 rfl ?_)
 refine ac ?_
 refine Tr.cn rfl ?_ ?_ <;> intro h3 q3
 rw [if_pos (by have := q3; omega)] at hA
 refine Tr.rx ?_
 refine ax ?_
 refine xrd 2 rfl rfl (rd_elp rfl Tryz.underlying37 sz32 (vl rfl) (vl rfl) (by omega) (by rw [List.length_map]; omega)) ?_
 refine Cx.ef0 2 rfl rfl (ef_elstore rfl rfl (vl rfl) (VL.le (vl rfl) (agg_cellsP _)) sz32 rfl (map_rows fun _ => rfl) (by rw [List.getElem?_map, hx]; rfl) (by decide) (show _ = (l.set c.endpoint.toNat (doneR x c).1).map rowEp by rw [List.map_set]; rfl)) ?_
 refine Cx.nil ⟨by kernel_rfl, ?_⟩
 refine FinX.done al4 (Fin.go (Tr.drop 0 (wk1 6 rfl ?_)))
 refine ac ?_
 refine Tr.ret ?_
 rw [hA]
 refine Fin.retD rfl (RVal.tmp rfl (Pr.le_refl _)) ?_ (List.Perm.refl _)
 · refine int_eq ?_; simp_all
 rw [if_neg (by have := q3; omega)] at hA
 refine ac ?_
 refine Tr.drop 0 ?_
 refine ac ?_
 refine Tr.ret ?_
 rw [hA]
 refine Fin.retD rfl (RVal.tmp rfl (Pr.le_refl _)) ?_ (List.Perm.refl _)
 · exact Pr.le_refl _
end Go.Proofs.YtppeeogffbpcbaaGreat
namespace Go.Proofs.YtppeeogffbpcbaaGreat
open Go Go.RowKit Cp

/-- What changes, one after the other, make of endpoints. -/
def runE (l : List Chg) : List Int → List Ept → List Ept × Int
  | [], eps => (eps, 0)
  | i :: s, eps => match l[i.toNat]? with
    | none => (eps, 0)
    | some c => if (apE eps c).2 = 0 then runE l s (apE eps c).1 else (eps, (apE eps c).2)
/-- The state of a set. -/
def stE (e : Est) (l : List Chg) (s : List Int) : Est × Int :=
  if estB e = false then (zeroSt, 31)
  else if 24 < l.length then (zeroSt, 3)
  else if setB l.length s = false then (zeroSt, 46)
  else if (runE l s e.eps).2 = 0 then (⟨(runE l s e.eps).1, e.edges, e.items⟩, 0) else (zeroSt, (runE l s e.eps).2)
theorem runE_step {l : List Chg} {s : List Int} {eps : List Ept} {k : Nat} {i : Int} {c : Chg} (hi : s[k]? = some i) (hc : l[i.toNat]? = some c) : runE l (s.drop k) eps = if (apE eps c).2 = 0 then runE l (s.drop (k + 1)) (apE eps c).1 else (eps, (apE eps c).2) := by
  have hk := lt_of_at hi
  rw [List.drop_eq_getElem_cons hk]
  rw [List.getElem?_eq_getElem hk] at hi; cases hi
  rw [runE]; rw [hc]
theorem apE_len (l : List Ept) (c : Chg) : (apE l c).1.length = l.length := by
  unfold apE; split
  · rfl
  · split
    · rfl
    · split
      · exact List.length_set
      · rfl
theorem apE_sz {l : List Ept} {c : Chg} {n : Nat} (hz : ∀ x ∈ l, x.sz n) (hi : c.idn.fits ∧ c.idn.small) : ∀ x ∈ (apE l c).1, x.sz (n + 1) := by
  have hz1 : ∀ x ∈ l, x.sz (n + 1) := fun x hx => (hz x hx).le (by omega)
  unfold apE; split
  · exact hz1
  · split
    · exact hz1
    next x hx =>
    split
    next h0 =>
      intro y hy
      rcases List.mem_or_eq_of_mem_set hy with hy | hy
      · exact hz1 y hy
      · subst hy
        exact (sz_done (b := (doneR x c).2.1) (by rw [← h0]) (hz x (List.mem_of_getElem? hx)) hi).1
    · exact hz1
def lastS (s : List Int) (k : Nat) : Int := if k = 0 then -1 else s[k - 1]?.getD 0
theorem lastS_succ {s : List Int} {k : Nat} {i : Int} (h : s[k]? = some i) : lastS s (k + 1) = i := by unfold lastS; rw [if_neg (by omega), Nat.add_sub_cancel, h]; rfl
theorem setAt_last {n : Int} {s : List Int} {k : Nat} {i : Int} (h : ∀ j, j < k → setAt n s j = true) (hi : s[k]? = some i) : setAt n s k = !(decide (i ≤ lastS s k) || decide (n ≤ i)) := by
  have hk := lt_of_at hi
  unfold setAt lastS
  rw [hi, Option.getD_some]
  rcases Nat.eq_zero_or_pos k with hz | hz
  · subst hz; rw [Bool.eq_iff_iff]; simp; omega
  · have h1 := h (k - 1) (by omega)
    unfold setAt at h1
    simp only [Bool.and_eq_true, decide_eq_true_eq] at h1
    rw [if_neg (by omega), Bool.eq_iff_iff]; simp; omega
theorem set_bad {n : Int} {s : List Int} {k : Nat} {i : Int} (h : ∀ j, j < k → setAt n s j = true) (hi : s[k]? = some i) (hb : i ≤ lastS s k ∨ n ≤ i) : setB n s = false :=
  allI_hit (p := setAt n s) (k := k) (lt_of_at hi) (by rw [setAt_last h hi]; simp; omega)
theorem set_ge {n : Int} {s : List Int} (h : ∀ j, j < s.length → setAt n s j = true) : ∀ j, j < s.length → (j : Int) ≤ s[j]?.getD 0
  | 0, hj => by have := h 0 hj; unfold setAt at this; simp at this; simp; omega
  | j + 1, hj => by
    have h1 := set_ge h j (by omega)
    have := h (j + 1) hj
    unfold setAt at this
    simp only [Bool.and_eq_true, Bool.or_eq_true, decide_eq_true_eq, Nat.add_sub_cancel] at this
    omega
theorem set_len {n : Nat} {s : List Int} (h : setB n s = true) : s.length ≤ n := by
  unfold setB at h; rw [allI_iff] at h
  rcases Nat.eq_zero_or_pos s.length with hz | hz
  · omega
  · have h1 := set_ge h (s.length - 1) (by omega)
    have h2 := h (s.length - 1) (by omega)
    unfold setAt at h2
    simp only [Bool.and_eq_true, decide_eq_true_eq] at h2
    omega
theorem set_mem {n : Nat} {s : List Int} (h : setB n s = true) {k : Nat} {i : Int} (hi : s[k]? = some i) : 0 ≤ i ∧ i < n := by
  unfold setB at h; rw [allI_iff] at h
  have h2 := h k (lt_of_at hi)
  unfold setAt at h2
  rw [hi] at h2
  simp only [Option.getD_some, Bool.and_eq_true, decide_eq_true_eq] at h2
  exact h2.1

theorem w_EsState {e : Est} {l : List Chg} {s : List Int} {n : Nat} (hz : e.sz n) (hn : n ≤ 800000) (hc : ∀ c ∈ l, c.idn.fits ∧ c.idn.small) : Fun Tryz.prog 31 [agg (rowSt e), slice 8 (l.map rowChg), ints s] (tup [agg (rowSt (stE e l s).1), int (stE e l s).2]) := by
 refine fo Tryz.func31 rfl ⟨rfl, rfl⟩ fun M0 w0 => (Tr.lenm 1 rfl fun hlm_1 => (Tr.lenm 2 rfl fun hlm_2 => (Tr.seq (Tr.regT (tp rfl (ok_box rfl (VL.le (vl rfl) (agg_cellsP _))) ?_)))))
 refine TO.alloc rfl rfl (by decide) rfl z41 zo41 (fun b1 => ?_)
 refine ap ?_
 refine ac ?_
 refine co rfl (kc1 (w_XCheck (hz.fits (by omega))) rfl rfl) ?_
 refine ac ?_
 refine Tr.cn rfl ?_ ?_ <;> intro h1 q1
 have hA : stE e l s = (zeroSt, 31) := if_pos (by have := q1; cases h_ : estB e <;> simp_all)
 refine ap ?_
 refine Tr.ret (Fin.block_ret (Fin.then_ret (Fin.retX2 rfl (RVal.cell 0 rfl rfl agg41 sz41 rfl (Pr.le_refl _)) (RVal.tmp rfl (Pr.le_refl _)) ?_)))
 refine tup_le ⟨?_, ?_, trivial⟩
 · rw [hA]; exact agg_le ⟨nil_slice 9, nil_slice 2, nil_slice 5, trivial⟩
 · exact int_eq (by rw [hA])
 have hok : estB e = true := by have := q1; cases h_ : estB e <;> simp_all
 refine ac ?_
 refine Tr.cn rfl ?_ ?_ <;> intro h2 q2
 have hA : stE e l s = (zeroSt, 3) := by unfold stE; rw [if_neg (by simp [hok]), if_pos (by have := q2; omega)]
 refine ap ?_
 refine wk2 6 7 rfl (Tr.ret (Fin.block_ret (Fin.then_ret (Fin.retX2 rfl (RVal.cell 0 rfl rfl agg41 sz41 rfl (Pr.le_refl _)) (RVal.tmp rfl (Pr.le_refl _)) ?_))))
 refine tup_le ⟨?_, ?_, trivial⟩
 · rw [hA]; exact agg_le ⟨nil_slice 9, nil_slice 2, nil_slice 5, trivial⟩
 · exact int_eq (by rw [hA])
 have hl24 : l.length ≤ 24 := by have := q2; omega
 refine ac ?_
 refine ac ?_
 refine ac ?_
 refine wk8 1 2 3 6 8 25 26 27 rfl (Tr.block (Tr.loopw [(1, _), (2, _), (3, _), (6, _), (25, _), (26, _)] (kk6 rfl) (fun k : Nat => [(27, int ((k : Nat) : Int)), (8, int (lastS s k))]) (fun k : Nat => k ≤ (s).length ∧ (∀ j, j < k → setAt l.length s j = true)) (fun k : Nat => (s).length - k) 0 (⟨Nat.zero_le _, fun j hj => absurd hj (by omega)⟩) ⟨ke rfl, ⟨_, rfl, int_eq rfl⟩, trivial⟩ ?_))
 rintro k ⟨hle_k, hinv_k⟩
 refine ac ?_
 refine Tr.seq ?_
 refine Tr.cn rfl ?_ ?_ <;> intro h3 q3
 have hk_k : k < (s).length := lt_of_dec h3
 obtain ⟨i, hx_k⟩ := at_ hk_k
 have hsl := setAt_last hinv_k hx_k
 refine ac ?_
 refine Tr.seq (Tr.block (Tr.seq (Tr.reg0 (co rfl (ok_indexAddr rfl Tryz.underlying59 sz3 (vl rfl) (vl rfl) (by omega) (row_at hx_k)) ?_))))
 refine ac ?_
 refine ac ?_
 refine Ch.cs 34 rfl ?_ ?_ <;> intro h4 q4
 refine ac ?_
 refine wk9 1 2 3 6 10 25 26 27 39 rfl (Tr.cond rfl (fun _ => ?_) (fun h => nomatch h))
 refine Tr.seq (Tr.regT (tp rfl (ok_build (rows := []) rfl bl41 zo41 trivial rfl) (TO.store_all 0 rfl rfl rfl (vl rfl) (VL.le (vl rfl) (agg_cellsP _)) rfl sz41 rfl rfl (tm rfl (TO.nil (Fin.go (Tr.ret (Fin.then_ret (Fin.block_ret (Fin.then_ret (Fin.then_ret (Fin.block_ret (Fin.then_ret (Fin.retX2 rfl (RVal.cell 0 rfl rfl agg41 sz41 rfl (Pr.le_refl _)) (RVal.tmp rfl (Pr.le_refl _)) ?_))))))))))))))
 refine tup_le ⟨?_, ?_, trivial⟩
 · rw [(show stE e l s = (zeroSt, 46) by unfold stE; rw [if_neg (by simp [hok]), if_neg (by omega), if_pos (set_bad hinv_k hx_k (by omega))])]; exact agg_le ⟨nil_slice 9, nil_slice 2, nil_slice 5, trivial⟩
 · exact int_eq (by rw [(show stE e l s = (zeroSt, 46) by unfold stE; rw [if_neg (by simp [hok]), if_neg (by omega), if_pos (set_bad hinv_k hx_k (by omega))])])
 refine ac ?_
 refine wk9 1 2 3 6 10 25 26 27 39 rfl ?_
 refine Tr.cn rfl ?_ ?_ <;> intro h5 q5
 refine ap ?_
 refine Tr.ret (Fin.then_ret (Fin.block_ret (Fin.then_ret (Fin.then_ret (Fin.block_ret (Fin.then_ret (Fin.retX2 rfl (RVal.cell 0 rfl rfl agg41 sz41 rfl (Pr.le_refl _)) (RVal.tmp rfl (Pr.le_refl _)) ?_)))))))
 refine tup_le ⟨?_, ?_, trivial⟩
 · rw [(show stE e l s = (zeroSt, 46) by unfold stE; rw [if_neg (by simp [hok]), if_neg (by omega), if_pos (set_bad hinv_k hx_k (by omega))])]; exact agg_le ⟨nil_slice 9, nil_slice 2, nil_slice 5, trivial⟩
 · exact int_eq (by rw [(show stE e l s = (zeroSt, 46) by unfold stE; rw [if_neg (by simp [hok]), if_neg (by omega), if_pos (set_bad hinv_k hx_k (by omega))])])
 refine ac ?_
 refine ac ?_
 refine ac ?_
 exact Fin.fam_same (k + 1) ⟨⟨hk_k, allI_step hinv_k (by rw [hsl]; simp; omega)⟩, by omega⟩ ⟨⟨_, rfl, int_succ k⟩, ⟨_, rfl, int_eq (by rw [lastS_succ hx_k])⟩, ke rfl, ke rfl, ke rfl, ke rfl, ke rfl, ke rfl, trivial⟩
 have he_k : k = (s).length := by have := ge_of_dec h3; omega
 subst he_k
 have hsb : setB l.length s = true := allI_iff.2 hinv_k
 have hsn := set_len hsb
 have hel := hz.le
 refine ac ?_
 refine ap ?_
 refine TO.callV rfl rfl (by decide) rfl (w_EsCopyV hz (by omega)) ⟨ke rfl, trivial⟩ (fun v1 => ?_)
 refine TO.alloc rfl rfl (by decide) rfl z41 zo41 (fun b2 => ?_)
 refine ap ?_
 refine ac ?_
 refine wk6 1 6 11 45 46 47 rfl (Tr.block (Tr.loopD2V0 [(1, _), (6, _), (11, _), (45, _), (46, _)] ⟨ke rfl, ke rfl, ke rfl, ke rfl, ke rfl, trivial⟩ (fun (m : Nat) (eps : List Ept) => [(47, int ((m : Nat) : Int))]) (fun (m : Nat) (eps : List Ept) => Hp M0 w0 noS ([cellsRes true b2 41 [is v1, edgs e.edges, itms e.items], oweRes 32 9 (eps.map rowEp) v1, cellsRes true b1 41 (([.slice none 0 0, .slice none 0 0, .slice none 0 0] : List Value).map is)])) (fun (m : Nat) (eps : List Ept) => m ≤ s.length ∧ (∀ x ∈ eps, x.sz (n + m)) ∧ eps.length = e.eps.length ∧ runE l (s.drop m) eps = runE l s e.eps) (fun (m : Nat) (eps : List Ept) => s.length - m) (0) (e.eps)  (⟨Nat.zero_le _, hz.eps, rfl, rfl⟩) ⟨ke rfl, trivial⟩ (fun _ _ h => h) ?_))
 rintro m eps  ⟨hm1, hse, hm3, hm4⟩
 refine ac ?_
 refine Tr.seq ?_
 refine Tr.cn rfl ?_ ?_ <;> intro h6 q6
 have hmm : m < s.length := by have := Nrm.nrm h6; omega
 obtain ⟨i, hx_m⟩ := at_ hmm
 have him := set_mem hsb hx_m
 obtain ⟨c, hcc⟩ := at_ (l := l) (k := i.toNat) (by omega)
 have hci := hc c (List.mem_of_getElem? hcc)
 have hst := runE_step (eps := eps) hx_m hcc
 rw [hm4] at hst
 refine ac ?_
 refine Tr.seq (Tr.block (Tr.seq (Tr.reg0 (co rfl (ok_indexAddr rfl Tryz.underlying59 sz3 (vl rfl) (vl rfl) (by omega) (row_at hx_m)) ?_))))
 refine ac ?_
 refine ap ?_
 refine tp rfl (ok_indexAddr rfl Tryz.underlying47 sz29 (vl rfl) (vl rfl) (by omega) (row_atI (f := rowChg) hcc)) (tp rfl (ok_loadA rfl agg29 sz29 (vl rfl) rfl rfl) ?_)
 refine TO.callD _ rfl rfl (by decide) rfl (w_Esapply (l := eps) (c := c) hse (by omega) (by omega) hci) ⟨ke rfl, ke rfl, trivial⟩ ((perm_at (j := 0) rfl).trans (List.Perm.cons _ ((perm_at (j := 0) rfl).trans (List.Perm.cons _ (List.Perm.refl _))))) ?_
 refine ap ?_
 refine wk7 1 6 11 14 45 46 47 rfl ?_
 refine ac ?_
 refine Tr.cn rfl ?_ ?_ <;> intro h7 q7
 have h0_ : ¬ (apE eps c).2 = 0 := by have := q7; omega
 rw [if_neg h0_] at hst
 have hA : stE e l s = (zeroSt, (apE eps c).2) := by unfold stE; rw [if_neg (by simp [hok]), if_neg (by omega), if_neg (by simp [hsb]), hst]; exact if_neg h0_
 refine ap ?_
 refine Tr.ret (Fin.block_ret (Fin.then_ret (Fin.then_ret (Fin.block_ret (Fin.then_ret (Fin.retX2 rfl (RVal.cell 2 rfl rfl agg41 sz41 rfl (Pr.le_refl _)) (RVal.tmp rfl (Pr.le_refl _)) ?_))))))
 refine tup_le ⟨?_, ?_, trivial⟩
 · rw [hA]; exact agg_le ⟨nil_slice 9, nil_slice 2, nil_slice 5, trivial⟩
 · exact int_eq (by rw [hA])
 have h0_ := q7
 refine ac ?_
 refine ac ?_
 exact Fin.famD2V0 (m + 1) ((apE eps c).1)  (⟨⟨by omega, by have := apE_sz (c := c) hse hci; rw [show n + (m + 1) = n + m + 1 by omega]; exact this, by rw [apE_len]; exact hm3, by rw [hst, if_pos (by omega)]⟩, by omega⟩) ⟨⟨_, rfl, int_succ m⟩, ke rfl, ke rfl, ke rfl, ke rfl, ke rfl, trivial⟩ (fun _ _ h => h)
 obtain rfl : m = s.length := by have := Nrm.nrm h6; omega
 rw [List.drop_length] at hm4
 have hA : stE e l s = (⟨eps, e.edges, e.items⟩, 0) := by unfold stE; rw [if_neg (by simp [hok]), if_neg (by omega), if_neg (by simp [hsb]), ← hm4]; exact if_pos rfl
 refine ac ?_
 refine Tr.seq (Tr.frzWC 0 1 0 rfl rfl (by decide) rfl (Pr.le_refl _) (map_rows fun _ => rfl) ?_)
 refine ap ?_
 refine Tr.ret (Fin.retX2 rfl (RVal.cell 2 rfl rfl agg41 sz41 rfl (Pr.le_refl _)) (RVal.tmp rfl (Pr.le_refl _)) ?_)
 refine tup_le ⟨?_, ?_, trivial⟩
 · rw [hA]; exact Pr.le_refl _
 · exact int_eq (by rw [hA])
end Go.Proofs.YtppeeogffbpcbaaGreat
namespace Go.Proofs.YtppeeogffbpcbaaGreat
open Go Go.RowKit Cp

theorem set0 : setB ((1 : Nat) : Int) [0] = true := by decide
/-- One change of an estate. -/
def stp (e : Est) (c : Chg) : Est × Int := if (apE e.eps c).2 = 0 then (⟨(apE e.eps c).1, e.edges, e.items⟩, 0) else (zeroSt, (apE e.eps c).2)
def aplE (e : Est) (c : Chg) : Est × Int := if estB e = false then (zeroSt, 31) else stp e c
theorem runE_one (c : Chg) (eps : List Ept) : runE [c] [0] eps = if (apE eps c).2 = 0 then ((apE eps c).1, 0) else (eps, (apE eps c).2) := rfl
theorem st_one (e : Est) (c : Chg) : stE e [c] [0] = aplE e c := by
  unfold stE aplE
  by_cases h : estB e = false
  · rw [if_pos h, if_pos h]
  · rw [if_neg h, if_neg h, if_neg (by simp), if_neg (by show ¬ setB ((1 : Nat) : Int) [0] = false; rw [set0]; decide), runE_one]
    unfold stp
    by_cases h2 : (apE e.eps c).2 = 0
    · rw [if_pos h2, if_pos rfl, if_pos h2]
    · rw [if_neg h2, if_neg h2, if_neg h2]
theorem w_EsApply {e : Est} {c : Chg} {n : Nat} (hz : e.sz n) (hn : n ≤ 800000) (hci : c.idn.fits ∧ c.idn.small) : Fun Tryz.prog 33 [agg (rowSt e), agg (rowChg c)] (tup [agg (rowSt (aplE e c).1), int (aplE e c).2]) := by
 refine fo Tryz.func33 rfl ⟨rfl, rfl⟩ fun M0 w0 => (Tr.seq (Tr.regT (tp rfl (ok_box rfl (VL.le (vl rfl) (agg_cellsP _))) (tp rfl (ok_box rfl (VL.le (vl rfl) (agg_cellsP _))) ?_))))
 refine TO.alloc rfl rfl (by decide) rfl z41 zo41 (fun b1 => ?_)
 refine ap ?_
 refine ap ?_
 refine tp rfl (ok_call rfl (w_EsState (e := e) (l := [c]) (s := [0]) hz hn (fun x hx => by simp at hx; subst hx; exact hci)) ⟨ke rfl, ⟨_, rfl, Pr.le_trans (full_le _ _) (Pr.le_of_eq (show _ = slice 8 (([c] : List Chg).map rowChg) from rfl))⟩, ⟨_, rfl, Pr.le_trans (full_le _ _) (Pr.le_of_eq (show _ = ints [0] from rfl))⟩, trivial⟩) ?_
 refine ap ?_
 refine Tr.ret (Fin.retX2 rfl (RVal.cell 0 rfl rfl agg41 sz41 rfl (Pr.le_refl _)) (RVal.tmp rfl (Pr.le_refl _)) ?_)
 refine tup_le ⟨?_, ?_, trivial⟩
 · rw [← st_one]; exact Pr.le_refl _
 · exact int_eq (by rw [st_one])
end Go.Proofs.YtppeeogffbpcbaaGreat
namespace Go.Proofs.YtppeeogffbpcbaaGreat
open Go Go.RowKit Cp
theorem w_R25CopyV {e : Est} {n : Nat} (hz : e.sz n) (hn : n ≤ 1000000) : FunV Tryz.prog 35 [agg (rowSt e)] (fun x => agg [is x, edgs e.edges, itms e.items]) (fun x => [oweRes 32 9 (e.eps.map rowEp) x]) := by
 refine FunV.of Tryz.func35 rfl rfl (by exact Nat.le_of_ble_eq_true rfl) fun M0 w0 S rs M1 w1 => ?_
 have hl1 := hz.le
 have hl2 := hz.lg
 have hl3 := hz.li
 refine Tr.seq (Tr.regT (tp rfl (ok_box rfl (VL.le (vl rfl) (agg_cellsP _))) ?_))
 refine TO.alloc rfl rfl (by decide) rfl z41 zo41 (fun b1 => ?_)
 refine ao ?_
 refine ao ?_
 refine tp rfl (ok_appN rfl Tryz.underlying38 sz80 by80 z80 rfl (by decide) (vl rfl) (by simp only [List.length_map, List.length_append, List.length_cons, List.length_nil, List.length_take]; unfold maxLen; omega) (by simp only [List.length_map, List.length_append, List.length_cons, List.length_nil, List.length_take]; omega)) ?_
 refine tp rfl (ok_build (rows := [(1, [_])]) rfl bl41 zo41 ⟨⟨rfl, (VL.le (vl rfl) (one_cellsP _))⟩, trivial⟩ rfl) ?_
 refine TO.alloc rfl rfl (by decide) rfl z41 zo41 (fun b2 => ?_)
 refine TO.store_all 0 rfl rfl rfl (vl rfl) (VL.le (vl rfl) (agg_cellsP _)) rfl sz41 rfl rfl ?_
 refine ao ?_
 refine ac ?_
 refine Tr.block (Tr.reC 0 [andIs (.slice none 0 0) (lens ((e.eps.take 0).map rowEp).length), edgs e.edges, is (.slice none 0 0)] rfl ⟨lens_nil rfl, Pr.le_refl _, Pr.le_refl _, trivial⟩ (Tr.addown 32 9 (Tr.loopV1 [(1, _), (2, _), (3, _), (13, _), (14, _)] ⟨ke rfl, ke rfl, ke rfl, ke rfl, ke rfl, trivial⟩ (fun k v => [(15, int ((k : Nat) : Int))]) (fun k v => Hp M0 w0 S (ownRes 32 9 ((e.eps.take k).map rowEp) v :: cellsRes true b2 41 [andIs v (lens ((e.eps.take k).map rowEp).length), edgs e.edges, is (.slice none 0 0)] :: cellsRes true b1 41 (([.slice none 0 0, .slice none 0 0, .slice none 0 0] : List Value).map is) :: extRes M1 w1 :: rs)) (fun k : Nat => k ≤ (e.eps).length) (fun k : Nat => (e.eps).length - k) 0 (.slice none 0 0) (Nat.zero_le _) ⟨ke rfl, trivial⟩ (fun _ _ h => h) ?_)))
 rintro k v hle_k
 refine ac ?_
 refine Tr.seq ?_
 refine Tr.cn rfl ?_ ?_ <;> intro h1 q1
 have hk_k : k < (e.eps).length := lt_of_dec h1
 obtain ⟨x, hx_k⟩ := at_ hk_k
 have hxs := (hz.eps x (List.mem_of_getElem? hx_k)).small hn
 refine ac ?_
 refine Tr.seq (Tr.block (Tr.seq (Tr.regT (tp rfl (ok_indexAddr rfl Tryz.underlying37 sz32 (vl rfl) (vl rfl) (by omega) (by exact row_at (by assumption))) ?_))))
 refine tp rfl (ok_loadA rfl agg32 sz32 (vl rfl) rfl rfl) ?_
 refine TO.alloc rfl rfl (by decide) rfl z32 zo32 (fun b3 => ?_)
 refine sf 0 5 ⟨rfl, rfl, rfl⟩ rfl rfl rfl rfl ?_
 refine ao ?_
 refine Tr.pad (Tr.rx ?_)
 refine ax ?_
 refine xo rfl (fun _ => kc1 (w_R24Copy hxs) rfl rfl) (xo rfl (fun _ => ok_buildSlice (xs := [.tmp 22]) (rows := [_]) rfl rfl Tryz.underlying37 sz32 z32 rfl (by decide) ⟨⟨(by exact rfl), (VL.le (vl rfl) (agg_cellsP _))⟩, trivial⟩ (by decide)) ?_)
 refine Cx.ef 1 rfl rfl (by decide) (ef_appmut rfl rfl (by decide) rfl Tryz.underlying37 sz32 by32 z32 rfl (by decide) (by decide) (vl rfl) ⟨_, rfl, full_le _ _⟩ (map_rows fun _ => rfl) (Nat.zero_lt_succ _) (by simp only [List.length_map, List.length_take, List.length_cons, List.length_nil]; unfold maxLen; omega) (by simp only [List.length_map, List.length_take, List.length_cons, List.length_nil]; omega)) ?_
 refine xo rfl (fun _ => okp_fieldAddr rfl fo41_0 (vl rfl)) (Cx.ef0 2 rfl rfl (ef_storeS rfl rfl rfl (vl rfl) rfl sz37 (by exact Nat.le_of_ble_eq_true rfl)) ?_)
 refine Cx.nil ⟨by kernel_rfl, ?_⟩
 refine FinX.open2 1 2 24 rfl rfl (by decide) rfl (fun v1 => ?_)
 refine FinX.done al5 ?_
 refine ac ?_
 refine Tr.drop 0 (wk6 1 2 3 13 14 15 rfl ?_)
 refine ac ?_
 refine Fin.reC 1 [andIs v1 (lens ((e.eps.take (k + 1)).map rowEp).length), edgs e.edges, is (.slice none 0 0)] rfl ⟨lens_le (by simp only [List.length_map, List.length_append, List.length_take, List.length_cons, List.length_nil]; omega), Pr.le_refl _, Pr.le_refl _, trivial⟩ ?_
 rw [snocT (f := rowEp) hx_k]
 exact Fin.famV1 (k + 1) v1 (⟨hk_k, by omega⟩) ⟨⟨_, rfl, int_succ k⟩, ke rfl, ke rfl, ke rfl, ke rfl, ke rfl, trivial⟩ (fun _ _ h => h)
 have he_k : k = (e.eps).length := by have := ge_of_dec h1; omega
 subst he_k
 rw [List.take_length]
 refine ac ?_
 refine ac ?_
 refine Tr.block (Tr.reC 1 [andIs v (lens (e.eps.map rowEp).length), edgs e.edges, andIs (.slice none 0 0) (itms (e.items.take 0))] rfl ⟨Pr.le_refl _, Pr.le_refl _, own_nil rfl, trivial⟩ (Tr.addnil 107 5 (Tr.loopV1 [(2, _), (3, _), (28, _), (29, _)] ⟨ke rfl, ke rfl, ke rfl, ke rfl, trivial⟩ (fun m u => [(30, int ((m : Nat) : Int))]) (fun m u => Hp M0 w0 S (appRes 107 5 u :: ownRes 32 9 (e.eps.map rowEp) v :: cellsRes true b2 41 [andIs v (lens (e.eps.map rowEp).length), edgs e.edges, andIs u (itms (e.items.take m))] :: cellsRes true b1 41 (([.slice none 0 0, .slice none 0 0, .slice none 0 0] : List Value).map is) :: extRes M1 w1 :: rs)) (fun m : Nat => m ≤ (e.items).length) (fun m : Nat => (e.items).length - m) 0 (.slice none 0 0) (Nat.zero_le _) ⟨ke rfl, trivial⟩ (fun _ _ h => h) ?_)))
 rintro m u hle_m
 refine ac ?_
 refine Tr.seq ?_
 refine Tr.cn rfl ?_ ?_ <;> intro h2 q2
 have hk_m : m < (e.items).length := lt_of_dec h2
 obtain ⟨y, hx_m⟩ := at_ hk_m
 have hyl := (hz.items y (List.mem_of_getElem? hx_m)).2
 refine ac ?_
 refine Tr.seq (Tr.block (Tr.seq (Tr.regT (tp rfl (ok_indexAddr rfl Tryz.underlying39 sz107 (vl rfl) (vl rfl) (by omega) (by exact row_at (by assumption))) ?_))))
 refine tp rfl (ok_loadA rfl agg107 sz107 (vl rfl) rfl rfl) ?_
 refine TO.alloc rfl rfl (by decide) rfl z107 zo107 (fun b4 => ?_)
 refine TO.store_all 0 rfl rfl rfl (vl rfl) (VL.le (vl rfl) (agg_cellsP _)) rfl sz107 rfl rfl ?_
 refine ao ?_
 refine ao ?_
 refine tp rfl (ok_appN rfl Tryz.underlying105 sz152 by152 z152 rfl (by decide) (vl rfl) (by simp only [List.length_map, List.length_append, List.length_cons, List.length_nil, List.length_take]; unfold maxLen; omega) (by simp only [List.length_map, List.length_append, List.length_cons, List.length_nil, List.length_take]; omega)) ?_
 refine tp rfl (okp_fieldAddr rfl fo107_3 (vl rfl)) (TO.ef0 0 rfl rfl (ef_store rfl rfl (vl rfl) (VL.le (vl rfl) (one_cellsP _)) sz105 rfl (by exact Nat.le_of_ble_eq_true rfl) rfl) ?_)
 refine ao ?_
 refine wk6 2 3 7 28 29 30 rfl ?_
 refine ao ?_
 refine TO.efs 1 rfl rfl (by decide) (ef_append rfl rfl (by decide) rfl Tryz.underlying39 sz107 by107 z107 rfl (by decide) ⟨_, rfl, andIs_le _ _⟩ ⟨_, rfl, full_le _ _⟩ (by simp only [List.length_map, List.length_append, List.length_cons, List.length_nil, List.length_take]; unfold maxLen; omega) (by simp only [List.length_map, List.length_append, List.length_cons, List.length_nil, List.length_take]; omega) (appR_is (by exact List.Mem.head _) ⟨_, rfl, andIs_is _ _⟩)) (fun v2 => ?_)
 refine tp rfl (okp_fieldAddr rfl fo41_2 (vl rfl)) (TO.ef0 3 rfl rfl (ef_store rfl rfl (vl rfl) (VL.le (vl rfl) (one_cellsP _)) sz39 rfl (by exact Nat.le_of_ble_eq_true rfl) rfl) ?_)
 refine ao ?_
 refine Tr.drop 0 ?_
 refine ac ?_
 refine Fin.reC 2 [andIs v (lens (e.eps.map rowEp).length), edgs e.edges, andIs v2 (itms (e.items.take (m + 1)))] rfl ⟨Pr.le_refl _, Pr.le_refl _, own_le (snocT (f := rowIt) hx_m), trivial⟩ (Fin.famV1 (m + 1) v2 (⟨hk_m, by omega⟩) ⟨⟨_, rfl, int_succ m⟩, ke rfl, ke rfl, ke rfl, ke rfl, trivial⟩ (fun _ _ h => h))
 have he_m : m = (e.items).length := by have := ge_of_dec h2; omega
 subst he_m
 refine ac ?_
 refine ao ?_
 refine TO.store_all 3 rfl rfl rfl (vl rfl) (VL.le (vl rfl) (agg_cellsP _)) rfl sz41 rfl rfl ?_
 refine ao ?_
 refine Tr.ret (Fin.toOwe 1 rfl (Fin.drop 0 (Fin.drop 1 (Fin.swap01 (Fin.retV v [_] rfl (RVal.cell 0 rfl rfl agg41 sz41 rfl (Pr.le_refl _)) ?_ (List.Perm.refl _))))))
 · exact agg_le ⟨andIs_is _ _, Pr.le_refl _, Pr.le_trans (andIs_le _ _) (Pr.le_of_eq (by rw [List.take_length])), trivial⟩
end Go.Proofs.YtppeeogffbpcbaaGreat
namespace Go.Proofs.YtppeeogffbpcbaaGreat
open Go Go.RowKit Cp

def usL : List (Int × Int) := [(2, 0), (1, 0), (5, 2048), (16, 128), (3, 0), (15, 168)]
def usO (v : Int) : Int × Int := usL[v.toNat]?.getD (2, 0)
theorem us_at {v : Int} (h : 0 ≤ v ∧ v < 6) : (usL.map fun u => [int u.1, int u.2])[v.toNat]? = some [int (usO v).1, int (usO v).2] := by
  have hl : v.toNat < usL.length := by show v.toNat < 6; omega
  unfold usO; rw [List.getElem?_map, List.getElem?_eq_getElem hl]; rfl
theorem us_all : ∀ u ∈ usL, strength u.1 u.2 > 0 := by decide +kernel
theorem us_ok (v : Int) : strength (usO v).1 (usO v).2 > 0 := by
  unfold usO
  cases h : usL[v.toNat]? with
  | none => decide +kernel
  | some u => exact us_all u (List.mem_of_getElem? h)
def linksF : Nat → DS → Int → List Lnk → List Lnk × Int × DS
  | 0, s, day, l => (l, day, s)
  | k + 1, s, day, l => linksF k s.adv.adv (day + 1 + s.adv.of [5, 30, 0, 100]) (l ++ [⟨(usO (s.val 6)).1, (usO (s.val 6)).2, day⟩])
abbrev itmRun (s : DS) : List Lnk × Int × DS := linksF (1 + s.adv.adv.adv.val 3).toNat s.adv.adv.adv.adv (s.adv.adv.val 20) []
def itemF (s : DS) (name : List UInt8) : Itm := ⟨name, 1 + s.val 2, 1 + s.adv.val 4, (itmRun s).1, ((itmRun s).1[0]?.getD zeroL).day + (itmRun s).2.2.of [50, 300, 0, 3000]⟩
def itemS (s : DS) : DS := (itmRun s).2.2.adv
/-- What such links are. -/
structure LnkI (l : List Lnk) (day : Int) : Prop where
  lo : 0 ≤ day
  hi : day ≤ 20 + 101 * (l.length : Nat)
  at_ : ∀ j, j < l.length → linkAt l j = true
  lt : ∀ x ∈ l, x.day < day
theorem lnk_snoc {l : List Lnk} {day d : Int} {u : Int × Int} (h : LnkI l day) (h3 : l.length ≤ 3) (hu : strength u.1 u.2 > 0) (hd : 0 ≤ d ∧ d ≤ 100) : LnkI (l ++ [⟨u.1, u.2, day⟩]) (day + 1 + d) := by
  have h0 := h.lo; have h1 := h.hi
  refine ⟨by omega, by rw [List.length_append]; simp; omega, fun j hj => ?_, fun x hx => ?_⟩
  · rw [List.length_append] at hj; simp at hj
    rcases Nat.lt_or_ge j l.length with hl | hl
    · have := h.at_ j hl
      unfold linkAt at this ⊢
      rw [List.getElem?_append_left hl, List.getElem?_append_left (show j - 1 < l.length by omega)]; exact this
    · have : j = l.length := by omega
      subst this
      unfold linkAt
      rw [List.getElem?_append_right (Nat.le_refl _), Nat.sub_self]
      rcases Nat.eq_zero_or_pos l.length with hz | hz
      · obtain rfl := List.eq_nil_of_length_eq_zero hz
        simp [hu]; simp at h1; omega
      · obtain ⟨y, hy⟩ := at_ (l := l) (k := l.length - 1) (by omega)
        rw [List.getElem?_append_left (show l.length - 1 < l.length by omega), hy]
        have := h.lt y (List.mem_of_getElem? hy)
        simp [hu]; omega
  · rcases List.mem_append.1 hx with hx | hx
    · have := h.lt x hx; omega
    · simp at hx; subst hx; show day < _; omega
theorem of_530 (s : DS) : 0 ≤ s.of [5, 30, 0, 100] ∧ s.of [5, 30, 0, 100] ≤ 100 := by have := s.of_mem (l := [5, 30, 0, 100]) (by simp); simp at this; omega
theorem of_503 (s : DS) : 0 ≤ s.of [50, 300, 0, 3000] ∧ s.of [50, 300, 0, 3000] ≤ 3000 := by have := s.of_mem (l := [50, 300, 0, 3000]) (by simp); simp at this; omega
theorem linksF_ok : ∀ (k : Nat) (s : DS) (day : Int) (l : List Lnk), LnkI l day → l.length + k ≤ 3 → LnkI (linksF k s day l).1 (linksF k s day l).2.1 ∧ (linksF k s day l).1.length = l.length + k
  | 0, s, day, l, h, _ => ⟨h, rfl⟩
  | k + 1, s, day, l, h, hk => by
    have := linksF_ok k s.adv.adv (day + 1 + s.adv.of [5, 30, 0, 100]) (l ++ [⟨(usO (s.val 6)).1, (usO (s.val 6)).2, day⟩]) (lnk_snoc h (by omega) (us_ok _) (of_530 _)) (by simp; omega)
    refine ⟨this.1, ?_⟩
    show (linksF k _ _ _).1.length = _
    rw [this.2]; simp; omega
/-- What such an item is. -/
structure ItmS (x : Itm) : Prop where
  ok : itemB x = true
  name : x.name.length ≤ 32
  links : x.links.length ≤ 3
theorem item_ok {s : DS} {name : List UInt8} (hn : named name = true) : ItmS (itemF s name) := by
  have h2 := s.val_in (n := 2) (by omega)
  have h4 := s.adv.val_in (n := 4) (by omega)
  have h20 := s.adv.adv.val_in (n := 20) (by omega)
  have h3 := s.adv.adv.adv.val_in (n := 3) (by omega)
  have hI : LnkI [] (s.adv.adv.val 20) := ⟨by omega, by simp; omega, fun j hj => by simp at hj, fun x hx => by simp at hx⟩
  obtain ⟨hL, hl⟩ := linksF_ok (1 + s.adv.adv.adv.val 3).toNat s.adv.adv.adv.adv (s.adv.adv.val 20) [] hI (by simp; omega)
  simp only [List.length_nil, Nat.zero_add] at hl
  have hlen : (itmRun s).1.length = (1 + s.adv.adv.adv.val 3).toNat := hl
  have hu := of_503 (itmRun s).2.2
  obtain ⟨c, hc⟩ := at_ (l := (itmRun s).1) (k := 0) (by omega)
  have hg := getD_at (d := zeroL) hc
  have hc1 := hL.lt c (List.mem_of_getElem? hc)
  have hc2 := hL.hi
  refine ⟨item_iff.2 ⟨hn, ?_, ?_, ?_, ?_, ?_, hL.at_, ?_, ?_⟩, named_len hn, ?_⟩
  · show 1 + s.val 2 = 1 ∨ 1 + s.val 2 = 2; omega
  · show 1 ≤ 1 + s.adv.val 4; omega
  · show 1 + s.adv.val 4 ≤ 4; omega
  · show 1 ≤ (itmRun s).1.length; omega
  · show (itmRun s).1.length ≤ 8; omega
  · show ((itmRun s).1[0]?.getD zeroL).day ≤ ((itmRun s).1[0]?.getD zeroL).day + _; omega
  · show ((itmRun s).1[0]?.getD zeroL).day + _ ≤ 40000; rw [hg]; omega
  · show (itmRun s).1.length ≤ 3; omega

theorem w_ItemF {b : Nat} {s : DS} {name : List UInt8}  : FunM Tryz.prog 67 [ptr b 0, str name] (agg (rowIt (itemF s name))) (diceS b s) (fun _ => diceS b (itemS s)) := by
 refine FunM.of Tryz.func67 rfl rfl (by exact Nat.le_of_ble_eq_true rfl) fun M0 w0 S rs M1 w1 => ?_
 have hv2 := s.val_in (n := 2) (by omega)
 have hv4 := s.adv.val_in (n := 4) (by omega)
 have hv20 := s.adv.adv.val_in (n := 20) (by omega)
 have hv3 := s.adv.adv.adv.val_in (n := 3) (by omega)
 refine Tr.seq (Tr.regT ?_)
 refine TO.alloc rfl rfl (by decide) rfl z107 zo107 (fun b1 => ?_)
 refine ao ?_
 refine ao ?_
 refine TO.efc 1 rfl rfl (by decide) (ef_callc rfl rfl (by decide) rfl (w_DNext (by omega) (by omega)) ⟨ke rfl, ke rfl, trivial⟩) ?_
 refine ao ?_
 refine TO.efc 1 rfl rfl (by decide) (ef_callc rfl rfl (by decide) rfl (w_DNext (by omega) (by omega)) ⟨ke rfl, ke rfl, trivial⟩) ?_
 refine ao ?_
 refine TO.alloc rfl rfl (by decide) rfl z107 zo107 (fun b2 => ?_)
 refine TO.store_all 0 rfl rfl rfl (vl rfl) (VL.le (vl rfl) (agg_cellsP _)) rfl sz107 rfl rfl ?_
 refine ao ?_
 refine ao ?_
 refine TO.efc 2 rfl rfl (by decide) (ef_callc rfl rfl (by decide) rfl (w_DNext (by omega) (by omega)) ⟨ke rfl, ke rfl, trivial⟩) ?_
 refine ao ?_
 refine wk4 0 4 5 6 rfl ?_
 refine ao ?_
 refine TO.efc 2 rfl rfl (by decide) (ef_callc rfl rfl (by decide) rfl (w_DNext (by omega) (by omega)) ⟨ke rfl, ke rfl, trivial⟩) ?_
 refine ao ?_
 refine Tr.block (Tr.reC 0 [str name, int (1 + s.val 2), int (1 + s.adv.val 4), andIs (.slice none 0 0) (lnks []), is (.int .i64 0)] rfl ⟨Pr.le_refl _, Pr.le_refl _, Pr.le_refl _, own_nil rfl, Pr.le_refl _, trivial⟩ (Tr.addnil 152 3 ?_))
 refine Tr.loopD4V1 [(0, _), (4, _), (5, _)] ⟨ke rfl, ke rfl, ke rfl, trivial⟩ (fun (k : Int) (day : Int) (l : List Lnk) (s2 : DS) v => [(7, int k), (6, int day)]) (fun (k : Int) (day : Int) (l : List Lnk) (s2 : DS) v => Hp M0 w0 S (appRes 152 3 v :: cellsRes true b2 107 [str name, int (1 + s.val 2), int (1 + s.adv.val 4), andIs v (lnks l), is (.int .i64 0)] :: cellsRes true b1 107 (([.string (ByteArray.mk #[]), .int .i64 0, .int .i64 0, .slice none 0 0, .int .i64 0] : List Value).map is) :: diceS b s2 :: extRes M1 w1 :: rs)) (fun (k : Int) (day : Int) (l : List Lnk) (s2 : DS) => (0 ≤ k ∧ k + l.length ≤ 3 ∧ 1 ≤ k + l.length ∧ LnkI l day) ∧ linksF k.toNat s2 day l = itmRun s) (fun (k : Int) (day : Int) (l : List Lnk) (s2 : DS) => k.toNat) (_) (_) ([]) (_) (.slice none 0 0) (⟨⟨by omega, by simp; omega, by simp; omega, ⟨by omega, by simp; omega, fun j hj => by simp at hj, fun x hx => by simp at hx⟩⟩, rfl⟩) ⟨ke rfl, ke rfl, trivial⟩ (fun _ _ h => h) ?_
 rintro k day l s2 v ⟨⟨hk0, hk1, hk2, hL⟩, hR⟩
 have hL0 := hL.lo
 have hL1 := hL.hi
 have hof := of_530 s2.adv
 refine ac ?_
 refine Tr.cn rfl ?_ ?_ <;> intro h1 q1
 have hk3 : 0 < k := of_decide_eq_true h1
 have hv6 := s2.val_in (n := 6) (by omega)
 refine ac ?_
 refine ao ?_
 refine TO.efc 3 rfl rfl (by decide) (ef_callc rfl rfl (by decide) rfl (w_DNext (by omega) (by omega)) ⟨ke rfl, ke rfl, trivial⟩) ?_
 refine tp rfl (ok_indexAddr rfl Tryz.underlying114 sz24 ⟨_, rfl, full_le _ _⟩ (vl rfl) (by omega) (show (usL.map fun u => [int u.1, int u.2])[_]? = _ from us_at hv6)) ?_
 refine tp rfl (ok_loadA rfl agg24 sz24 (vl rfl) rfl rfl) ?_
 refine TO.alloc rfl rfl (by decide) rfl z24 zo24 (fun b3 => ?_)
 refine sf 0 8 ⟨rfl, rfl, rfl⟩ rfl rfl rfl rfl ?_
 refine ao ?_
 refine wk6 0 4 5 6 7 8 rfl ?_
 refine ao ?_
 refine TO.efs 0 rfl rfl (by decide) (ef_append rfl rfl (by decide) rfl Tryz.underlying105 sz152 by152 z152 rfl (by decide) ⟨_, rfl, andIs_le _ _⟩ ⟨_, rfl, full_le _ _⟩ (by simp only [List.length_append, List.length_map, List.length_cons, List.length_nil]; unfold maxLen; omega) (by simp only [List.length_append, List.length_map, List.length_cons, List.length_nil]; omega) (appR_is (by exact List.Mem.head _) ⟨_, rfl, andIs_is _ _⟩)) (fun v1 => ?_)
 refine tp rfl (okp_fieldAddr rfl fo107_3 (vl rfl)) (TO.ef0 1 rfl rfl (ef_store rfl rfl (vl rfl) (VL.le (vl rfl) (one_cellsP _)) sz105 rfl (by exact Nat.le_of_ble_eq_true rfl) rfl) ?_)
 refine ao ?_
 refine wk5 0 4 5 6 7 rfl ?_
 refine ao ?_
 refine TO.efc 3 rfl rfl (by decide) (ef_callc rfl rfl (by decide) rfl (w_DOf (l := [5, 30, 0, 100]) (by simp) (by simp)) ⟨ke rfl, ⟨_, rfl, full_le _ _⟩, trivial⟩) ?_
 refine ao ?_
 refine ac ?_
 refine Fin.reC 1 [str name, int (1 + s.val 2), int (1 + s.adv.val 4), andIs v1 (lnks (l ++ [(⟨(usO (s2.val 6)).1, (usO (s2.val 6)).2, day⟩ : Lnk)])), is (.int .i64 0)] rfl ⟨Pr.le_refl _, Pr.le_refl _, Pr.le_refl _, own_le (by rw [List.map_append]; rfl), Pr.le_refl _, trivial⟩ ?_
 exact Fin.famD4V1 (k - 1) (_) (l ++ [(⟨(usO (s2.val 6)).1, (usO (s2.val 6)).2, day⟩ : Lnk)]) (_) v1 (⟨⟨⟨by omega, by simp; omega, by simp; omega, lnk_snoc hL (by omega) (us_ok _) (of_530 _)⟩, by rw [← hR, show k.toNat = (k - 1).toNat + 1 by omega]; rfl⟩, by omega⟩) ⟨⟨_, rfl, int_eq (by omega)⟩, ⟨_, rfl, int_eq (by omega)⟩, ke rfl, ke rfl, ke rfl, trivial⟩ (fun _ _ h => h)
 have hk3 : ¬ 0 < k := of_decide_eq_false h1
 obtain rfl : k = 0 := by omega
 obtain ⟨c0, hc0⟩ := at_ (l := l) (k := 0) (by omega)
 have hg0 := getD_at (d := zeroL) hc0
 have hlt0 := hL.lt c0 (List.mem_of_getElem? hc0)
 have hlo0 : 0 ≤ c0.day := by have h_ := hL.at_ 0 (lt_of_at hc0); unfold linkAt at h_; rw [hg0] at h_; simp at h_; omega
 have hof2 := of_503 s2
 have hR1 : (itmRun s).1 = l := by rw [← hR]; rfl
 obtain rfl : s2 = (itmRun s).2.2 := by rw [← hR]; rfl
 refine ac ?_
 refine Tr.seq (Tr.rx ?_)
 refine ay ?_
 refine xo rfl (fun _ => ok_indexAddr rfl Tryz.underlying105 sz152 ⟨_, rfl, andIs_le _ _⟩ (vl rfl) (by omega) (row_at (k := 0) hc0)) ?_
 refine ay ?_
 refine xo rfl (fun _ => ok_buildSlice (xs := [.const (.int .i64 (50)), .const (.int .i64 (300)), .const (.int .i64 (0)), .const (.int .i64 (3000))]) (rows := [[_], [_], [_], [_]]) rfl rfl Tryz.underlying22 sz3 z3 rfl (by decide) ⟨⟨(by exact rfl), (VL.le (vl rfl) (one_cellsP _))⟩, ⟨⟨(by exact rfl), (VL.le (vl rfl) (one_cellsP _))⟩, ⟨⟨(by exact rfl), (VL.le (vl rfl) (one_cellsP _))⟩, ⟨⟨(by exact rfl), (VL.le (vl rfl) (one_cellsP _))⟩, trivial⟩⟩⟩⟩ (by decide)) ?_
 refine Cx.ef 3 rfl rfl (by decide) (ef_callc rfl rfl (by decide) rfl (w_DOf (l := [50, 300, 0, 3000]) (by simp) (by simp)) ⟨ke rfl, ⟨_, rfl, full_le _ _⟩, trivial⟩) ?_
 refine ay ?_
 refine Cx.nil ⟨by kernel_rfl, ?_⟩
 refine FinX.done al5 (Fin.go (wk2 4 5 rfl ?_))
 refine ao ?_
 refine TO.store_all 2 rfl rfl rfl (vl rfl) (VL.le (vl rfl) (agg_cellsP _)) rfl sz107 rfl rfl ?_
 refine ao ?_
 refine Tr.ret (Fin.retY1 [_, _, _] rfl (RVal.cell 2 rfl rfl agg107 sz107 rfl (Pr.le_refl _)) ?_ (fun _ _ _ _ => rfl))
 · exact agg_le ⟨Pr.le_refl _, Pr.le_refl _, Pr.le_refl _, Pr.le_trans (andIs_le _ _) (Pr.le_of_eq (by show _ = lnks (itmRun s).1; rw [hR1])), int_eq (by show _ = ((itmRun s).1[0]?.getD zeroL).day + _; rw [hR1, hg0]), trivial⟩
end Go.Proofs.YtppeeogffbpcbaaGreat
namespace Go.Proofs.YtppeeogffbpcbaaGreat
open Go Go.RowKit Cp

/-- Edges, all ahead of (i, j). -/
structure EdI (n : Nat) (i j : Int) (l : List Edg) : Prop where
  at_ : ∀ k, k < l.length → edgeAt n l k = true
  lt : ∀ g ∈ l, g.client < i ∨ (g.client = i ∧ g.server < j)
theorem EdI.nil (n : Nat) (i j : Int) : EdI n i j [] := ⟨fun k hk => by simp at hk, fun g hg => by simp at hg⟩
theorem EdI.step {n : Nat} {i j : Int} {l : List Edg} (h : EdI n i j l) : EdI n i (j + 1) l := ⟨h.at_, fun g hg => by have := h.lt g hg; omega⟩
theorem EdI.row {n : Nat} {i j : Int} {l : List Edg} (h : EdI n i j l) : EdI n (i + 1) 0 l := ⟨h.at_, fun g hg => by have := h.lt g hg; omega⟩
theorem EdI.snoc {n : Nat} {i j : Int} {l : List Edg} (h : EdI n i j l) (hi : 0 ≤ i ∧ i < n) (hj : 0 ≤ j ∧ j < n) (hn : i ≠ j) : EdI n i (j + 1) (l ++ [⟨i, j⟩]) := by
  refine ⟨fun k hk => ?_, fun g hg => ?_⟩
  · rw [List.length_append] at hk; simp at hk
    rcases Nat.lt_or_ge k l.length with hl | hl
    · have := h.at_ k hl
      unfold edgeAt at this ⊢
      rw [List.getElem?_append_left hl, List.getElem?_append_left (show k - 1 < l.length by omega)]; exact this
    · have : k = l.length := by omega
      subst this
      unfold edgeAt
      rw [List.getElem?_append_right (Nat.le_refl _), Nat.sub_self]
      rcases Nat.eq_zero_or_pos l.length with hz | hz
      · obtain rfl := List.eq_nil_of_length_eq_zero hz
        simp; omega
      · obtain ⟨y, hy⟩ := Cp.at_ (l := l) (k := l.length - 1) (by omega)
        rw [List.getElem?_append_left (show l.length - 1 < l.length by omega), hy]
        have := h.lt y (List.mem_of_getElem? hy)
        simp; omega
  · rcases List.mem_append.1 hg with hg | hg
    · have := h.lt g hg; omega
    · simp at hg; subst hg; right; exact ⟨rfl, by show j < j + 1; omega⟩
theorem names_lt : ∀ i, i < 2 → Lib.compareBytes (nameL[i]?.getD []) (nameL[i + 1]?.getD []) = -1 := by decide +kernel
/-- What such an estate is. -/
structure SndSt (e : Est) : Prop where
  n2 : 2 ≤ e.eps.length
  n3 : e.eps.length ≤ 3
  snd : SndL e.eps
  ed : ∀ k, k < e.edges.length → edgeAt e.eps.length e.edges k = true
  g1 : 1 ≤ e.edges.length
  g3 : e.edges.length ≤ 3
  it : ∀ x ∈ e.items, ItmS x
  i2 : e.items.length ≤ 2
theorem SndSt.ok {e : Est} (h : SndSt e) : estB e = true := by
  have h3 := h.n3; have g3 := h.g3; have i2 := h.i2
  refine est_iff.2 ⟨fun j hj => ?_, by omega, h.ed, by omega, List.all_eq_true.2 fun x hx => (h.it x hx).ok, by omega⟩
  obtain ⟨x, hx⟩ := at_ hj
  have hs := h.snd j x hx
  unfold epAt
  rw [hx, Option.getD_some, eptB_iff.2 (sndE_ok hs), Bool.true_and, Bool.or_eq_true, decide_eq_true_eq, decide_eq_true_eq]
  rcases Nat.eq_zero_or_pos j with hz | hz
  · exact .inl hz
  · right
    obtain ⟨y, hy⟩ := at_ (l := e.eps) (k := j - 1) (by omega)
    have hs2 := h.snd _ y hy
    rw [hy, Option.getD_some]
    have := names_lt (j - 1) (by omega)
    rw [hs2.name, show j - 1 + 1 = j by omega, hs.name] at this
    exact this
theorem SndSt.fits {e : Est} (h : SndSt e) : e.fits := by
  have h3 := h.n3; have g3 := h.g3; have i2 := h.i2
  refine ⟨fun x hx => ?_, fun x hx => by have := (h.it x hx).name; unfold maxLen; omega, by omega, by omega, by omega⟩
  obtain ⟨i, hi⟩ := List.getElem?_of_mem hx
  exact ⟨sndE_fits (h.snd i x hi), sndE_small (h.snd i x hi)⟩
abbrev backup : List UInt8 := [98, 97, 99, 107, 117, 112]
abbrev deed : List UInt8 := [100, 101, 101, 100]
theorem word_ok (s : DS) : named (wordOf s [backup, deed]) = true := by
  have h := s.val_in (n := 2) (by omega)
  unfold wordOf
  have : s.val (([backup, deed] : List (List UInt8)).length : Nat) = 0 ∨ s.val (([backup, deed] : List (List UInt8)).length : Nat) = 1 := by show s.val 2 = 0 ∨ s.val 2 = 1; omega
  rcases this with h | h <;> rw [h] <;> decide
theorem its_snoc {l : List Itm} {y : Itm} (h : ∀ x ∈ l, ItmS x) (hy : ItmS y) : ∀ x ∈ l ++ [y], ItmS x := by
  intro x hx
  rcases List.mem_append.1 hx with hx | hx
  · exact h x hx
  · simp at hx; subst hx; exact hy

theorem w_SoundS {b : Nat} {s : DS}  : FunM Tryz.prog 13 [ptr b 0] (Cp.ex fun e : Est => fact (SndSt e) (agg (rowSt e))) (diceS b s) (fun _ => diceEx 101 b) := by
 refine FunM.of Tryz.func13 rfl rfl (by exact Nat.le_of_ble_eq_true rfl) fun M0 w0 S rs M1 w1 => ?_
 have hv2 := s.val_in (n := 2) (by omega)
 have hnl : (nameL.take (2 + s.val 2).toNat).length = (2 + s.val 2).toNat := by rw [List.length_take]; show min _ 3 = _; omega
 refine Tr.seq (Tr.regT ?_)
 refine TO.alloc rfl rfl (by decide) rfl z41 zo41 (fun b1 => ?_)
 refine TO.nil (Fin.go (Tr.seq (Tr.regT ?_)))
 refine TO.alloc rfl rfl (by decide) rfl z41 zo41 (fun b2 => ?_)
 refine TO.nil (Fin.go (Tr.seq (Tr.regT (tp rfl (ok_buildSlice (xs := [.const (.string ⟨[97, 112, 112].toArray⟩), .const (.string ⟨[100, 98].toArray⟩), .const (.string ⟨[119, 101, 98].toArray⟩)]) (rows := [[_], [_], [_]]) rfl rfl Tryz.underlying74 sz9 z9 rfl (by decide) ⟨⟨(by exact rfl), (VL.le (vl rfl) (one_cellsP _))⟩, ⟨⟨(by exact rfl), (VL.le (vl rfl) (one_cellsP _))⟩, ⟨⟨(by exact rfl), (VL.le (vl rfl) (one_cellsP _))⟩, trivial⟩⟩⟩ (by decide)) ?_))))
 refine tm rfl (TO.efc 2 rfl rfl (by decide) (ef_callc rfl rfl (by decide) rfl (w_DNext (by omega) (by omega)) ⟨ke rfl, ke rfl, trivial⟩) ?_)
 refine tp rfl (ok_add rfl (vl rfl) (vl rfl) ?hin) ?_; case hin => unfold InI; omega
 refine tp rfl (ok_sliceTo rfl Tryz.underlying74 sz9 ⟨_, rfl, full_le _ _⟩ (vl rfl) (by omega) (by simp; omega)) ?_
 refine tm rfl (TO.nil (Fin.go (Tr.seq (Tr.seq (Tr.reg0 (cm rfl (co rfl (ok_len rfl Tryz.underlying74 (vl rfl)) (cm rfl (Ch.nil (Fin.go (Tr.block ?_)))))))))))
 refine Tr.re 16 rfl (Pr.le_of_eq (by show slice 1 (List.take _ (nameL.map fun t => [str t])) = _; rw [← List.map_take]) : Pr.le _ (txts (nameL.take (2 + s.val 2).toNat))) ?_
 refine Tr.re 17 rfl (int_eq (by simp; rfl) : Pr.le _ (int (((nameL.take (2 + s.val 2).toNat).length : Nat) : Int))) ?_
 refine Tr.reC 0 [andIs (.slice none 0 0) (slice 9 (([] : List Ept).map rowEp)), is (.slice none 0 0), is (.slice none 0 0)] rfl ⟨own_nil rfl, Pr.le_refl _, Pr.le_refl _, trivial⟩ (Tr.addnil 32 9 (Tr.loopD3V1 [(0, _), (2, _), (3, _), (4, _), (16, _), (17, _)] ⟨ke rfl, ke rfl, ke rfl, ke rfl, ke rfl, ke rfl, trivial⟩ (fun (k : Nat) (es : List Ept) (s2 : DS) v => [(18, int ((k : Nat) : Int))]) (fun (k : Nat) (es : List Ept) (s2 : DS) v => Hp M0 w0 S (appRes 32 9 v :: cellsRes true b2 41 [andIs v (slice 9 (es.map rowEp)), is (.slice none 0 0), is (.slice none 0 0)] :: cellsRes true b1 41 (([.slice none 0 0, .slice none 0 0, .slice none 0 0] : List Value).map is) :: diceS b s2 :: extRes M1 w1 :: rs)) (fun (k : Nat) (es : List Ept) (s2 : DS) => k ≤ (2 + s.val 2).toNat ∧ es.length = k ∧ SndL es) (fun (k : Nat) (es : List Ept) (s2 : DS) => (2 + s.val 2).toNat - k) (0) ([]) (_) (.slice none 0 0) (⟨by omega, rfl, fun i e h => by simp at h⟩) ⟨ke rfl, trivial⟩ (fun _ _ h => h) ?_))
 rintro k es s2 v ⟨hk1, hk2, hk3⟩
 refine Tr.seq (Tr.reg0 (co rfl (ki rfl rfl rfl rfl) (Ch.nil (Fin.go (Tr.seq ?_)))))
 refine Tr.cn rfl ?_ ?_ <;> intro h1 q1
 have hkn : k < (2 + s.val 2).toNat := by have := Nrm.nrm h1; rw [hnl] at this; omega
 obtain ⟨nm, hnm⟩ := at_ (l := nameL.take (2 + s.val 2).toNat) (k := k) (by omega)
 have hnm2 : nameL[k]? = some nm := take_get hnm
 have hso := sopt_len (s2.adv.val 3)
 have hk3_ : k < 3 := lt_of_at hnm2
 have hvs := s2.adv.val_in (n := 3) (by omega)
 have hof := of_334 s2
 refine Tr.skip (Fin.go (Tr.seq (Tr.block (Tr.seq (Tr.reg0 (cm rfl (co rfl (ok_indexAddr rfl Tryz.underlying74 sz9 (vl rfl) (vl rfl) (by omega) (row_at hnm)) (co rfl (kl1 rfl one9 rfl) (cm rfl (cm rfl (Ch.nil (Fin.go (Tr.seq (Tr.pad ?_))))))))))))))
 refine Tr.regX mixed [none, none, none, some (0, 4, true, 0), none, none, none, none, none, some (0, 4, true, 0), none, none, none, some (0, 4, true, 0), none, none, none, some (0, 4, true, 0), none, some (0, 0, true, 7), some (7, 0, true, 7)] (by kernel_rfl) (xm rfl (xm rfl (xo rfl (fun _ => ok_buildSlice (xs := [.const (.int .i64 (3)), .const (.int .i64 (3)), .const (.int .i64 (4))]) (rows := [[_], [_], [_]]) rfl rfl Tryz.underlying22 sz3 z3 rfl (by decide) ⟨⟨(by exact rfl), (VL.le (vl rfl) (one_cellsP _))⟩, ⟨⟨(by exact rfl), (VL.le (vl rfl) (one_cellsP _))⟩, ⟨⟨(by exact rfl), (VL.le (vl rfl) (one_cellsP _))⟩, trivial⟩⟩⟩ (by decide)) ?_)))
 refine Cx.ef 4 rfl rfl (by decide) (ef_callc rfl rfl (by decide) rfl (w_DOf (l := [3, 3, 4]) (by simp) (by simp)) ⟨ke rfl, ⟨_, rfl, full_le _ _⟩, trivial⟩) ?_
 refine xo rfl (fun _ => ok_buildSlice (xs := [.const (.int .i64 (10)), .const (.int .i64 (8)), .const (.int .i64 (2))]) (rows := [[_], [_], [_]]) rfl rfl Tryz.underlying22 sz3 z3 rfl (by decide) ⟨⟨(by exact rfl), (VL.le (vl rfl) (one_cellsP _))⟩, ⟨⟨(by exact rfl), (VL.le (vl rfl) (one_cellsP _))⟩, ⟨⟨(by exact rfl), (VL.le (vl rfl) (one_cellsP _))⟩, trivial⟩⟩⟩ (by decide)) ?_
 refine xo rfl (fun _ => ok_buildSlice (xs := [.const (.int .i64 (8)), .const (.int .i64 (2))]) (rows := [[_], [_]]) rfl rfl Tryz.underlying22 sz3 z3 rfl (by decide) ⟨⟨(by exact rfl), (VL.le (vl rfl) (one_cellsP _))⟩, ⟨⟨(by exact rfl), (VL.le (vl rfl) (one_cellsP _))⟩, trivial⟩⟩ (by decide)) ?_
 refine xo rfl (fun _ => ok_buildSlice (xs := [.const (.int .i64 (2)), .const (.int .i64 (10)), .const (.int .i64 (8)), .const (.int .i64 (3))]) (rows := [[_], [_], [_], [_]]) rfl rfl Tryz.underlying22 sz3 z3 rfl (by decide) ⟨⟨(by exact rfl), (VL.le (vl rfl) (one_cellsP _))⟩, ⟨⟨(by exact rfl), (VL.le (vl rfl) (one_cellsP _))⟩, ⟨⟨(by exact rfl), (VL.le (vl rfl) (one_cellsP _))⟩, ⟨⟨(by exact rfl), (VL.le (vl rfl) (one_cellsP _))⟩, trivial⟩⟩⟩⟩ (by decide)) ?_
 refine xo rfl (fun _ => ok_buildSlice (xs := [.tmp 27, .tmp 28, .tmp 29]) (rows := [[_], [_], [_]]) rfl rfl Tryz.underlying102 sz22 z22 rfl (by decide) ⟨⟨(by exact rfl), ⟨_, rfl, Pr.le_trans (full_le _ _) (one_cellsP _)⟩⟩, ⟨⟨(by exact rfl), ⟨_, rfl, Pr.le_trans (full_le _ _) (one_cellsP _)⟩⟩, ⟨⟨(by exact rfl), ⟨_, rfl, Pr.le_trans (full_le _ _) (one_cellsP _)⟩⟩, trivial⟩⟩⟩ (by decide)) ?_
 refine xm rfl (Cx.ef 4 rfl rfl (by decide) (ef_callc rfl rfl (by decide) rfl (w_DNext (by omega) (by omega)) ⟨ke rfl, ke rfl, trivial⟩) ?_)
 refine xo rfl (fun _ => ok_indexAddr rfl Tryz.underlying102 sz22 ⟨_, rfl, full_le _ _⟩ (vl rfl) (by omega) (show (optS.map fun l => [ints l])[_]? = _ from sopt_at hvs)) ?_
 refine xo rfl (fun _ => kl1 rfl one22 rfl) (xm rfl (Cx.ef 4 rfl rfl (by decide) (ef_callc rfl rfl (by decide) rfl (w_DOne (by omega) (by omega)) ⟨ke rfl, ke rfl, trivial⟩) (xo rfl (fun _ => ok_buildSlice (xs := [.const (.int .i64 (1))]) (rows := [[_]]) rfl rfl Tryz.underlying22 sz3 z3 rfl (by decide) ⟨⟨(by exact rfl), (VL.le (vl rfl) (one_cellsP _))⟩, trivial⟩ (by decide)) ?_)))
 refine xo rfl (fun _ => ok_buildSlice (xs := [.const (.int .i64 (2)), .const (.int .i64 (3))]) (rows := [[_], [_]]) rfl rfl Tryz.underlying22 sz3 z3 rfl (by decide) ⟨⟨(by exact rfl), (VL.le (vl rfl) (one_cellsP _))⟩, ⟨⟨(by exact rfl), (VL.le (vl rfl) (one_cellsP _))⟩, trivial⟩⟩ (by decide)) ?_
 refine xm rfl (Cx.ef 4 rfl rfl (by decide) (ef_callc rfl rfl (by decide) rfl (w_DOne (by omega) (by omega)) ⟨ke rfl, ke rfl, trivial⟩) (xo rfl (fun _ => ok_build (rows := [(0, [_]), (1, [_]), (2, [_]), (3, [_]), (4, [_]), (6, [_]), (7, [_]), (8, [_])]) rfl bl32 zo32 ⟨⟨rfl, (VL.le (vl rfl) (one_cellsP _))⟩, ⟨⟨rfl, (VL.le (vl rfl) (one_cellsP _))⟩, ⟨⟨rfl, (VL.le (vl rfl) (one_cellsP _))⟩, ⟨⟨rfl, (VL.le (vl rfl) (one_cellsP _))⟩, ⟨⟨rfl, (VL.le (vl rfl) (one_cellsP _))⟩, ⟨⟨rfl, ⟨_, rfl, Pr.le_trans (full_le _ _) (one_cellsP _)⟩⟩, ⟨⟨rfl, ⟨_, rfl, Pr.le_trans (full_le _ _) (one_cellsP _)⟩⟩, ⟨⟨rfl, (VL.le (vl rfl) (one_cellsP _))⟩, trivial⟩⟩⟩⟩⟩⟩⟩⟩ rfl) (Cx.ef 0 rfl rfl (by decide) (ef_allocX rfl rfl (by decide) rfl z32 zo32) (Cx.ef0 0 rfl rfl (ef_storeX rfl rfl rfl rfl (VL.le (vl rfl) (agg_cellsP _)) sz32 rfl rfl) ?_))))
 refine Cx.nil ⟨rfl, ?_⟩
 refine FinX.open_ 0 7 rfl rfl (fun v1 => ?_)
 refine FinX.done (AllC.cons (AllC.cons (AllC.cons (AllC.cons (AllC.cons (AllC.cons (AllC.map _))))))) (Fin.opn 7 0 _ rfl rfl (fun _ => rfl) (fun b3 => ?_))
 refine Fin.go (wk10 0 2 3 4 5 6 7 16 17 18 rfl (Tr.seq (Tr.seq (Tr.reC 0 [str nm, int 1, int (s2.of [3, 3, 4]), ints (sOpt (s2.adv.val 3)), bool (s2.adv.adv.val 2 == 2 - 1), is (.slice none 0 0), ints [1], ints [2, 3], bool (s2.adv.adv.adv.val 3 == 3 - 1)] rfl ⟨Pr.le_refl _, Pr.le_refl _, Pr.le_refl _, Pr.le_refl _, Pr.le_refl _, Pr.le_refl _, Pr.le_refl _, Pr.le_refl _, Pr.le_refl _, trivial⟩ (Tr.reg0 (co rfl (okp_fieldAddr rfl fo32_2 (vl rfl)) (co rfl (ok_rd 0 rfl (rd_load1 rfl one3 (vl rfl) rfl)) (co rfl (ki rfl rfl rfl rfl) (Ch.nil (Fin.go ?_))))))))))
 refine Tr.cn rfl ?_ ?_ <;> intro h2 q2
 refine Tr.regT (tp rfl (ok_buildSlice (xs := [.const (.int .i64 (14))]) (rows := [[_]]) rfl rfl Tryz.underlying22 sz3 z3 rfl (by decide) ⟨⟨(by exact rfl), (VL.le (vl rfl) (one_cellsP _))⟩, trivial⟩ (by decide)) ?_)
 refine tp rfl (okp_fieldAddr rfl fo32_3 (vl rfl)) (TO.rd 0 rfl rfl rfl (by decide) (rd_load1 rfl one22 (vl rfl) rfl) (TO.pad ?_))
 refine TO.efs 0 rfl rfl (by decide) (ef_append rfl rfl (by decide) rfl Tryz.underlying22 sz3 by3 z3 rfl (by decide) ⟨_, rfl, full_le _ _⟩ (vl rfl) (by simp only [List.length_append, List.length_cons, List.length_nil, List.length_map]; unfold maxLen; omega) (by simp only [List.length_append, List.length_cons, List.length_nil, List.length_map]; omega) (appR_full (by exact List.Mem.head _) (vl rfl))) (fun v2 => ?_)
 refine tp rfl (okp_fieldAddr rfl fo32_3 (vl rfl)) (TO.ef0 1 rfl rfl (ef_store rfl rfl (vl rfl) (VL.le (vl rfl) (one_cellsP _)) sz22 rfl (by exact Nat.le_of_ble_eq_true rfl) rfl) (TO.nil (Fin.go (wk10 0 2 3 4 5 6 7 16 17 18 rfl (Tr.seq (Tr.regT (tm rfl (tp rfl (ok_call rfl (w_RSA) trivial) (tm rfl ?_)))))))))
 refine tp rfl (ok_add rfl (vl rfl) (vl rfl) ?hin) ?_; case hin => unfold InI; omega
 refine tp rfl (ok_call rfl (w_Leaf (name := nm) (a := 5) (b := 2048) (id := 100 + (k : Nat)) (to := 901) (key := 1) (leaf_ok hnm2 (by omega) (by omega)) (leaf_tiny (by omega)) (by omega)) ⟨ke rfl, ke rfl, ke rfl, ke rfl, ke rfl, trivial⟩) ?_
 refine TO.ex 54 rfl (fun z54 => TO.fact 54 rfl fun hz54 => ?_)
 refine tp rfl (ok_buildSlice (xs := [.tmp 54]) (rows := [_]) rfl rfl Tryz.underlying30 sz27 z27 rfl (by decide) ⟨⟨(by exact rfl), (VL.le (vl rfl) (agg_cellsP _))⟩, trivial⟩ (by decide)) ?_
 refine tp rfl (okp_fieldAddr rfl fo32_5 (vl rfl)) (TO.ef0 1 rfl rfl (ef_store rfl rfl (vl rfl) (VL.le (vl rfl) (one_cellsP _)) sz30 rfl (by exact Nat.le_of_ble_eq_true rfl) rfl) (TO.nil (Fin.go (wk8 0 2 3 4 7 16 17 18 rfl (Tr.regT (tp rfl (okp_fieldAddr rfl fo41_0 (vl rfl)) (TO.rd 3 rfl rfl rfl (by decide) (rd_load1 rfl one37 (vl rfl) rfl) (TO.rd 1 rfl rfl rfl (by decide) (rd_loadA rfl agg32 sz32 (vl rfl) rfl rfl) (tp rfl (ok_buildSlice (xs := [.tmp 59]) (rows := [rowEp (⟨nm, 1, s2.of [3, 3, 4], 14 :: sOpt (s2.adv.val 3), (s2.adv.adv.val 2 == 2 - 1), [leafI nm 5 2048 (100 + (k : Nat)) 901 1 z54], [1], [2, 3], (s2.adv.adv.adv.val 3 == 3 - 1)⟩ : Ept)]) rfl rfl Tryz.underlying37 sz32 z32 rfl (by decide) ⟨⟨(by exact rfl), VL.le (vl rfl) (Pr.le_trans (agg_le (qs := rowEp (⟨nm, 1, s2.of [3, 3, 4], 14 :: sOpt (s2.adv.val 3), (s2.adv.adv.val 2 == 2 - 1), [leafI nm 5 2048 (100 + (k : Nat)) 901 1 z54], [1], [2, 3], (s2.adv.adv.adv.val 3 == 3 - 1)⟩ : Ept)) ⟨Pr.le_refl _, Pr.le_refl _, Pr.le_refl _, Pr.le_trans (andIs_le _ _) (Pr.le_of_eq rfl), Pr.le_refl _, full_le _ _, Pr.le_refl _, Pr.le_refl _, Pr.le_refl _, trivial⟩) (agg_cellsP _))⟩, trivial⟩ (by decide)) ?_)))))))))
 refine TO.efs 2 rfl rfl (by decide) (ef_append rfl rfl (by decide) rfl Tryz.underlying37 sz32 by32 z32 rfl (by decide) ⟨_, rfl, andIs_le _ _⟩ ⟨_, rfl, full_le _ _⟩ (by simp only [List.length_append, List.length_cons, List.length_nil, List.length_map]; unfold maxLen; omega) (by simp only [List.length_append, List.length_cons, List.length_nil, List.length_map]; omega) (appR_is (by exact List.Mem.head _) ⟨_, rfl, andIs_is _ _⟩)) (fun v3 => ?_)
 refine tp rfl (okp_fieldAddr rfl fo41_0 (vl rfl)) (TO.ef0 3 rfl rfl (ef_store rfl rfl (vl rfl) (VL.le (vl rfl) (one_cellsP _)) sz37 rfl (by exact Nat.le_of_ble_eq_true rfl) rfl) (TO.nil (Fin.block (Fin.go (Tr.drop 1 (wk7 0 2 3 4 16 17 18 rfl (Tr.reg0 (cad rfl rfl rfl rfl (by omega) (cm rfl (Ch.nil ?_))))))))))
 refine Fin.reC 2 [andIs v3 (slice 9 ((es ++ [(⟨nm, 1, s2.of [3, 3, 4], 14 :: sOpt (s2.adv.val 3), (s2.adv.adv.val 2 == 2 - 1), [leafI nm 5 2048 (100 + (k : Nat)) 901 1 z54], [1], [2, 3], (s2.adv.adv.adv.val 3 == 3 - 1)⟩ : Ept)]).map rowEp)), is (.slice none 0 0), is (.slice none 0 0)] rfl ⟨own_le (by rw [List.map_append]; rfl), Pr.le_refl _, Pr.le_refl _, trivial⟩ ?_
 refine Fin.drop 0 ?_
 exact Fin.famD3V1 (k + 1) (es ++ [(⟨nm, 1, s2.of [3, 3, 4], 14 :: sOpt (s2.adv.val 3), (s2.adv.adv.val 2 == 2 - 1), [leafI nm 5 2048 (100 + (k : Nat)) 901 1 z54], [1], [2, 3], (s2.adv.adv.adv.val 3 == 3 - 1)⟩ : Ept)]) (_) v3 (⟨⟨by omega, by rw [List.length_append, hk2]; rfl, snd_snoc hk3 ⟨by rw [hk2]; exact hnm2, rfl, hof, .inr ⟨_, sopt_mem hvs, rfl⟩, ⟨z54, hz54, by rw [hk2]⟩, rfl, rfl⟩⟩, by omega⟩) ⟨⟨_, rfl, int_succ k⟩, ke rfl, ke rfl, ke rfl, ke rfl, ke rfl, ke rfl, trivial⟩ (fun _ _ h => h)
 refine Tr.skip (Fin.go (Tr.seq (Tr.regT (tm rfl (tp rfl (ok_call rfl (w_RSA) trivial) (tm rfl ?_))))))
 refine tp rfl (ok_add rfl (vl rfl) (vl rfl) ?hin) ?_; case hin => unfold InI; omega
 refine tp rfl (ok_call rfl (w_Leaf (name := nm) (a := 5) (b := 2048) (id := 100 + (k : Nat)) (to := 901) (key := 1) (leaf_ok hnm2 (by omega) (by omega)) (leaf_tiny (by omega)) (by omega)) ⟨ke rfl, ke rfl, ke rfl, ke rfl, ke rfl, trivial⟩) ?_
 refine TO.ex 54 rfl (fun z54 => TO.fact 54 rfl fun hz54 => ?_)
 refine tp rfl (ok_buildSlice (xs := [.tmp 54]) (rows := [_]) rfl rfl Tryz.underlying30 sz27 z27 rfl (by decide) ⟨⟨(by exact rfl), (VL.le (vl rfl) (agg_cellsP _))⟩, trivial⟩ (by decide)) ?_
 refine tp rfl (okp_fieldAddr rfl fo32_5 (vl rfl)) (TO.ef0 0 rfl rfl (ef_store rfl rfl (vl rfl) (VL.le (vl rfl) (one_cellsP _)) sz30 rfl (by exact Nat.le_of_ble_eq_true rfl) rfl) (TO.nil (Fin.go (wk8 0 2 3 4 7 16 17 18 rfl (Tr.regT (tp rfl (okp_fieldAddr rfl fo41_0 (vl rfl)) (TO.rd 2 rfl rfl rfl (by decide) (rd_load1 rfl one37 (vl rfl) rfl) (TO.rd 0 rfl rfl rfl (by decide) (rd_loadA rfl agg32 sz32 (vl rfl) rfl rfl) (tp rfl (ok_buildSlice (xs := [.tmp 59]) (rows := [rowEp (⟨nm, 1, s2.of [3, 3, 4], sOpt (s2.adv.val 3), (s2.adv.adv.val 2 == 2 - 1), [leafI nm 5 2048 (100 + (k : Nat)) 901 1 z54], [1], [2, 3], (s2.adv.adv.adv.val 3 == 3 - 1)⟩ : Ept)]) rfl rfl Tryz.underlying37 sz32 z32 rfl (by decide) ⟨⟨(by exact rfl), VL.le (vl rfl) (Pr.le_trans (agg_le (qs := rowEp (⟨nm, 1, s2.of [3, 3, 4], sOpt (s2.adv.val 3), (s2.adv.adv.val 2 == 2 - 1), [leafI nm 5 2048 (100 + (k : Nat)) 901 1 z54], [1], [2, 3], (s2.adv.adv.adv.val 3 == 3 - 1)⟩ : Ept)) ⟨Pr.le_refl _, Pr.le_refl _, Pr.le_refl _, Pr.le_refl _, Pr.le_refl _, full_le _ _, Pr.le_refl _, Pr.le_refl _, Pr.le_refl _, trivial⟩) (agg_cellsP _))⟩, trivial⟩ (by decide)) ?_)))))))))
 refine TO.efs 1 rfl rfl (by decide) (ef_append rfl rfl (by decide) rfl Tryz.underlying37 sz32 by32 z32 rfl (by decide) ⟨_, rfl, andIs_le _ _⟩ ⟨_, rfl, full_le _ _⟩ (by simp only [List.length_append, List.length_cons, List.length_nil, List.length_map]; unfold maxLen; omega) (by simp only [List.length_append, List.length_cons, List.length_nil, List.length_map]; omega) (appR_is (by exact List.Mem.head _) ⟨_, rfl, andIs_is _ _⟩)) (fun v4 => ?_)
 refine tp rfl (okp_fieldAddr rfl fo41_0 (vl rfl)) (TO.ef0 2 rfl rfl (ef_store rfl rfl (vl rfl) (VL.le (vl rfl) (one_cellsP _)) sz37 rfl (by exact Nat.le_of_ble_eq_true rfl) rfl) (TO.nil (Fin.block (Fin.go (Tr.drop 0 (wk7 0 2 3 4 16 17 18 rfl (Tr.reg0 (cad rfl rfl rfl rfl (by omega) (cm rfl (Ch.nil ?_))))))))))
 refine Fin.reC 1 [andIs v4 (slice 9 ((es ++ [(⟨nm, 1, s2.of [3, 3, 4], sOpt (s2.adv.val 3), (s2.adv.adv.val 2 == 2 - 1), [leafI nm 5 2048 (100 + (k : Nat)) 901 1 z54], [1], [2, 3], (s2.adv.adv.adv.val 3 == 3 - 1)⟩ : Ept)]).map rowEp)), is (.slice none 0 0), is (.slice none 0 0)] rfl ⟨own_le (by rw [List.map_append]; rfl), Pr.le_refl _, Pr.le_refl _, trivial⟩ ?_
 exact Fin.famD3V1 (k + 1) (es ++ [(⟨nm, 1, s2.of [3, 3, 4], sOpt (s2.adv.val 3), (s2.adv.adv.val 2 == 2 - 1), [leafI nm 5 2048 (100 + (k : Nat)) 901 1 z54], [1], [2, 3], (s2.adv.adv.adv.val 3 == 3 - 1)⟩ : Ept)]) (_) v4 (⟨⟨by omega, by rw [List.length_append, hk2]; rfl, snd_snoc hk3 ⟨by rw [hk2]; exact hnm2, rfl, hof, .inl (sopt_mem hvs), ⟨z54, hz54, by rw [hk2]⟩, rfl, rfl⟩⟩, by omega⟩) ⟨⟨_, rfl, int_succ k⟩, ke rfl, ke rfl, ke rfl, ke rfl, ke rfl, ke rfl, trivial⟩ (fun _ _ h => h)
 have hke : k = (2 + s.val 2).toNat := by have := Nrm.nrm h1; rw [hnl] at this; omega
 refine Tr.exit (Fin.then_exit (Fin.then_exit (Fin.block_here (Fin.go (Tr.seq (Tr.seq (Tr.reC 1 [slice 9 (es.map rowEp), is (.slice none 0 0), is (.slice none 0 0)] rfl ⟨andIs_le _ _, Pr.le_refl _, Pr.le_refl _, trivial⟩ (Tr.drop 0 (Tr.reg0 (cm rfl (co rfl (ok_len rfl Tryz.underlying74 (vl rfl)) (cm rfl (Ch.nil (Fin.go ?_))))))))))))))
 refine Tr.block ?_
 refine Tr.re 65 rfl (int_eq (by simp; rfl) : Pr.le _ (int (((nameL.take (2 + s.val 2).toNat).length : Nat) : Int))) ?_
 refine Tr.reC 0 [slice 9 (es.map rowEp), andIs (.slice none 0 0) (edgs []), is (.slice none 0 0)] rfl ⟨Pr.le_refl _, own_nil rfl, Pr.le_refl _, trivial⟩ (Tr.addnil 80 2 (Tr.loopD3V1 [(0, _), (2, _), (3, _), (4, _), (65, _)] ⟨ke rfl, ke rfl, ke rfl, ke rfl, ke rfl, trivial⟩ (fun (i : Nat) (gs : List Edg) (s3 : DS) w => [(66, int ((i : Nat) : Int))]) (fun (i : Nat) (gs : List Edg) (s3 : DS) w => Hp M0 w0 S (appRes 80 2 w :: cellsRes true b2 41 [slice 9 (es.map rowEp), andIs w (edgs gs), is (.slice none 0 0)] :: cellsRes true b1 41 (([.slice none 0 0, .slice none 0 0, .slice none 0 0] : List Value).map is) :: diceS b s3 :: extRes M1 w1 :: rs)) (fun (i : Nat) (gs : List Edg) (s3 : DS) => i ≤ (2 + s.val 2).toNat ∧ gs.length ≤ 3 ∧ EdI (2 + s.val 2).toNat i 0 gs) (fun (i : Nat) (gs : List Edg) (s3 : DS) => (2 + s.val 2).toNat - i) (0) ([]) (_) (.slice none 0 0) (⟨by omega, by simp, EdI.nil _ _ _⟩) ⟨ke rfl, trivial⟩ (fun _ _ h => h) ?_))
 rintro i gs s3 w ⟨hi1, hi2, hi3⟩
 refine Tr.seq (Tr.reg0 (co rfl (ki rfl rfl rfl rfl) (Ch.nil (Fin.go (Tr.seq ?_)))))
 refine Tr.cn rfl ?_ ?_ <;> intro h3 q3
 have hin : i < (2 + s.val 2).toNat := by have := Nrm.nrm h3; rw [hnl] at this; omega
 refine Tr.skip (Fin.go (Tr.seq (Tr.block (Tr.seq (Tr.reg0 (cm rfl (cm rfl (Ch.nil (Fin.go (Tr.seq (Tr.reg0 (cm rfl (co rfl (ok_len rfl Tryz.underlying74 (vl rfl)) ?_)))))))))))))
 refine cm rfl (Ch.nil (Fin.go (Tr.block ?_)))
 refine Tr.re 70 rfl (int_eq (by simp; rfl) : Pr.le _ (int (((nameL.take (2 + s.val 2).toNat).length : Nat) : Int))) ?_
 refine Tr.loopD3V1 [(0, _), (2, _), (3, _), (4, _), (8, _), (65, _), (66, _), (70, _)] ⟨ke rfl, ke rfl, ke rfl, ke rfl, ke rfl, ke rfl, ke rfl, ke rfl, trivial⟩ (fun (j : Nat) (gs3 : List Edg) (s4 : DS) u => [(71, int ((j : Nat) : Int))]) (fun (j : Nat) (gs3 : List Edg) (s4 : DS) u => Hp M0 w0 S (appRes 80 2 u :: cellsRes true b2 41 [slice 9 (es.map rowEp), andIs u (edgs gs3), is (.slice none 0 0)] :: cellsRes true b1 41 (([.slice none 0 0, .slice none 0 0, .slice none 0 0] : List Value).map is) :: diceS b s4 :: extRes M1 w1 :: rs)) (fun (j : Nat) (gs3 : List Edg) (s4 : DS) => j ≤ (2 + s.val 2).toNat ∧ gs3.length ≤ 3 ∧ EdI (2 + s.val 2).toNat i j gs3) (fun (j : Nat) (gs3 : List Edg) (s4 : DS) => (2 + s.val 2).toNat - j) (0) (gs) (_) w (⟨by omega, hi2, hi3⟩) ⟨ke rfl, trivial⟩ (fun _ _ h => h) ?_
 rintro j gs3 s4 u ⟨hj1, hj2, hj3⟩
 refine Tr.seq (Tr.reg0 (co rfl (ki rfl rfl rfl rfl) (Ch.nil (Fin.go (Tr.seq ?_)))))
 refine Tr.cn rfl ?_ ?_ <;> intro h4 q4
 have hjn : j < (2 + s.val 2).toNat := by have := Nrm.nrm h4; rw [hnl] at this; omega
 refine Tr.skip (Fin.go (Tr.seq (Tr.block (Tr.seq (Tr.reg0 (cm rfl (cm rfl (Ch.nil (Fin.go (Tr.seq (Tr.regT (tm rfl (tm rfl ?_)))))))))))))
 refine tp rfl (ki rfl rfl rfl rfl) (tm rfl ?_)
 refine TO.cases 77 rfl (fun h5 => ?_) (fun h5 => ?_)
 have q5 := Nrm.nrm h5
 refine TO.opG rfl rfl rfl h5 rfl (by decide) (ok_move rfl (vl rfl)) (TO.efcG 3 rfl rfl rfl h5 rfl rfl (by decide) (ef_callc rfl rfl (by decide) rfl (w_DNext (by omega) (by omega)) ⟨ke rfl, ke rfl, trivial⟩) (TO.opG rfl rfl rfl h5 rfl (by decide) (ki rfl rfl rfl rfl) (tp rfl (kpt rfl rfl h5 rfl) (tm rfl ?_))))
 refine TO.cases 82 rfl (fun h6 => ?_) (fun h6 => ?_)
 have q6 := Nrm.nrm h6
 refine TO.opG rfl rfl rfl h6 rfl (by decide) (okp_fieldAddr rfl fo41_1 (vl rfl)) (TO.opG rfl rfl rfl h6 rfl (by decide) (ok_rd 1 rfl (rd_load1 rfl one38 (vl rfl) rfl)) (TO.opG rfl rfl rfl h6 rfl (by decide) (ok_lenm rfl Tryz.underlying38 ⟨_, rfl, andIs_le _ _⟩) (TO.opG rfl rfl rfl h6 rfl (by decide) (ki rfl rfl rfl rfl) (tp rfl (kpt rfl rfl h6 rfl) (TO.nil (Fin.go (wk11 0 2 3 4 8 9 65 66 70 71 87 rfl ?_)))))))
 refine Tr.cn rfl ?_ ?_ <;> intro h7 q7
 refine Tr.regT (tp rfl (okp_fieldAddr rfl fo41_1 (vl rfl)) (TO.rd 1 rfl rfl rfl (by decide) (rd_load1 rfl one38 (vl rfl) rfl) (tm rfl (tm rfl (tp rfl (ok_build (rows := [(0, [_]), (1, [_])]) rfl bl80 zo80 ⟨⟨rfl, (VL.le (vl rfl) (one_cellsP _))⟩, ⟨⟨rfl, (VL.le (vl rfl) (one_cellsP _))⟩, trivial⟩⟩ rfl) (tp rfl (ok_buildSlice (xs := [.tmp 92]) (rows := [_]) rfl rfl Tryz.underlying38 sz80 z80 rfl (by decide) ⟨⟨(by exact rfl), (VL.le (vl rfl) (agg_cellsP _))⟩, trivial⟩ (by decide)) ?_))))))
 refine TO.efs 0 rfl rfl (by decide) (ef_append rfl rfl (by decide) rfl Tryz.underlying38 sz80 by80 z80 rfl (by decide) ⟨_, rfl, andIs_le _ _⟩ ⟨_, rfl, full_le _ _⟩ (by simp only [List.length_append, List.length_cons, List.length_nil, List.length_map]; unfold maxLen; omega) (by simp only [List.length_append, List.length_cons, List.length_nil, List.length_map]; omega) (appR_is (by exact List.Mem.head _) ⟨_, rfl, andIs_is _ _⟩)) (fun v5 => ?_)
 refine tp rfl (okp_fieldAddr rfl fo41_1 (vl rfl)) (TO.ef0 1 rfl rfl (ef_store rfl rfl (vl rfl) (VL.le (vl rfl) (one_cellsP _)) sz38 rfl (by exact Nat.le_of_ble_eq_true rfl) rfl) (TO.nil (Fin.block (Fin.go (wk9 0 2 3 4 8 65 66 70 71 rfl (Tr.reg0 (cad rfl rfl rfl rfl (by omega) (cm rfl (Ch.nil ?_)))))))))
 refine Fin.reC 1 [slice 9 (es.map rowEp), andIs v5 (edgs (gs3 ++ [(⟨((i : Nat) : Int), ((j : Nat) : Int)⟩ : Edg)])), is (.slice none 0 0)] rfl ⟨Pr.le_refl _, own_le (by rw [List.map_append]; rfl), Pr.le_refl _, trivial⟩ ?_
 exact Fin.famD3V1 (j + 1) (gs3 ++ [(⟨((i : Nat) : Int), ((j : Nat) : Int)⟩ : Edg)]) (_) v5 (⟨⟨by omega, by simp; omega, hj3.snoc ⟨by omega, by omega⟩ ⟨by omega, by omega⟩ (by omega)⟩, by omega⟩) ⟨⟨_, rfl, int_succ j⟩, ke rfl, ke rfl, ke rfl, ke rfl, ke rfl, ke rfl, ke rfl, ke rfl, trivial⟩ (fun _ _ h => h)
 refine Tr.skip (Fin.block (Fin.go (Tr.reg0 (cad rfl rfl rfl rfl (by omega) (cm rfl (Ch.nil (Fin.famD3V1 (j + 1) (gs3) (_) u (⟨⟨by omega, hj2, hj3.step⟩, by omega⟩) ⟨⟨_, rfl, int_succ j⟩, ke rfl, ke rfl, ke rfl, ke rfl, ke rfl, ke rfl, ke rfl, ke rfl, trivial⟩ (fun _ _ h => h))))))))
 have q6 := Nrm.nrm h6
 iterate 4 refine TO.noG rfl rfl rfl (ne_true h6) rfl (by decide) ?_
 refine tp rfl (kpf rfl rfl h6 rfl) (TO.nil (Fin.go (wk11 0 2 3 4 8 9 65 66 70 71 87 rfl (Tr.cond rfl (fun h => nomatch h) (fun _ => ?_)))))
 refine Tr.skip (Fin.block (Fin.go (Tr.reg0 (cad rfl rfl rfl rfl (by omega) (cm rfl (Ch.nil (Fin.famD3V1 (j + 1) (gs3) (_) u (⟨⟨by omega, hj2, hj3.step⟩, by omega⟩) ⟨⟨_, rfl, int_succ j⟩, ke rfl, ke rfl, ke rfl, ke rfl, ke rfl, ke rfl, ke rfl, ke rfl, trivial⟩ (fun _ _ h => h))))))))
 have q5 := Nrm.nrm h5
 refine TO.noG rfl rfl rfl (ne_true h5) rfl (by decide) (TO.noG rfl rfl rfl (ne_true h5) rfl (by decide) (TO.noG rfl rfl rfl (ne_true h5) rfl (by decide) (tp rfl (kpf rfl rfl h5 rfl) (tm rfl ?_))))
 iterate 4 refine TO.noG rfl rfl rfl (ne_true rfl) rfl (by decide) ?_
 refine tp rfl (kpf rfl rfl rfl rfl) (TO.nil (Fin.go (wk11 0 2 3 4 8 9 65 66 70 71 87 rfl (Tr.cond rfl (fun h => nomatch h) (fun _ => ?_)))))
 refine Tr.skip (Fin.block (Fin.go (Tr.reg0 (cad rfl rfl rfl rfl (by omega) (cm rfl (Ch.nil (Fin.famD3V1 (j + 1) (gs3) (_) u (⟨⟨by omega, hj2, hj3.step⟩, by omega⟩) ⟨⟨_, rfl, int_succ j⟩, ke rfl, ke rfl, ke rfl, ke rfl, ke rfl, ke rfl, ke rfl, ke rfl, trivial⟩ (fun _ _ h => h))))))))
 have hje : j = (2 + s.val 2).toNat := by have := Nrm.nrm h4; rw [hnl] at this; omega
 refine Tr.exit (Fin.then_exit (Fin.then_exit (Fin.block_here (Fin.block (Fin.go (Tr.reg0 (cad rfl rfl rfl rfl (by omega) (cm rfl (Ch.nil (Fin.famD3V1 (i + 1) (gs3) (_) u (⟨⟨by omega, hj2, hj3.row⟩, by omega⟩) ⟨⟨_, rfl, int_succ i⟩, ke rfl, ke rfl, ke rfl, ke rfl, ke rfl, trivial⟩ (fun _ _ h => h)))))))))))
 have hie : i = (2 + s.val 2).toNat := by have := Nrm.nrm h3; rw [hnl] at this; omega
 refine Tr.exit (Fin.then_exit (Fin.then_exit (Fin.block_here (Fin.go (Tr.seq (Tr.seq (Tr.reg0 (co rfl (okp_fieldAddr rfl fo41_1 (vl rfl)) (co rfl (ok_rd 1 rfl (rd_load1 rfl one38 (vl rfl) rfl)) (co rfl (ok_lenm rfl Tryz.underlying38 ⟨_, rfl, andIs_le _ _⟩) (co rfl (ki rfl rfl rfl rfl) (Ch.nil (Fin.go ?_)))))))))))))
 refine Tr.cn rfl ?_ ?_ <;> intro h8 q8
 refine Tr.regT (tp rfl (ok_build (rows := [(0, [_]), (1, [_])]) rfl bl80 zo80 ⟨⟨rfl, (VL.le (vl rfl) (one_cellsP _))⟩, ⟨⟨rfl, (VL.le (vl rfl) (one_cellsP _))⟩, trivial⟩⟩ rfl) (tp rfl (ok_buildSlice (xs := [.tmp 102]) (rows := [_]) rfl rfl Tryz.underlying38 sz80 z80 rfl (by decide) ⟨⟨(by exact rfl), (VL.le (vl rfl) (agg_cellsP _))⟩, trivial⟩ (by decide)) ?_))
 refine tp rfl (okp_fieldAddr rfl fo41_1 (vl rfl)) (TO.ef0 1 rfl rfl (ef_store rfl rfl (vl rfl) (VL.le (vl rfl) (one_cellsP _)) sz38 rfl (by exact Nat.le_of_ble_eq_true rfl) rfl) (TO.nil (Fin.go (wk3 0 2 3 rfl (Tr.seq (Tr.seq ?_))))))
 have hv9 := s3.val_in (n := 3) (by omega)
 obtain ⟨gs2, hge, hge2, hge3, hge4⟩ : ∃ l : List Edg, l = [⟨0, 1⟩] ∧ (∀ k, k < l.length → edgeAt (2 + s.val 2).toNat l k = true) ∧ 1 ≤ l.length ∧ l.length ≤ 3 := ⟨_, rfl, ((EdI.nil (2 + s.val 2).toNat 0 1).snoc ⟨by omega, by omega⟩ ⟨by omega, by omega⟩ (by omega)).at_, by simp, by simp⟩
 refine Tr.reC 1 [slice 9 (es.map rowEp), edgs gs2, is (.slice none 0 0)] rfl ⟨Pr.le_refl _, Pr.le_trans (full_le _ _) (Pr.le_of_eq (by rw [hge]; rfl)), Pr.le_refl _, trivial⟩ ?_
 refine Tr.drop 0 (Tr.regT (tm rfl (TO.efc 2 rfl rfl (by decide) (ef_callc rfl rfl (by decide) rfl (w_DNext (by omega) (by omega)) ⟨ke rfl, ke rfl, trivial⟩) (tm rfl (TO.nil (Fin.go (Tr.block (Tr.reC 0 [slice 9 (es.map rowEp), edgs gs2, andIs (.slice none 0 0) (itms [])] rfl ⟨Pr.le_refl _, Pr.le_refl _, own_nil rfl, trivial⟩ (Tr.addnil 107 5 ?_)))))))))
 refine Tr.loopD3V1 [(0, _), (2, _), (3, _)] ⟨ke rfl, ke rfl, ke rfl, trivial⟩ (fun (q : Int) (its : List Itm) (s5 : DS) x => [(10, int q)]) (fun (q : Int) (its : List Itm) (s5 : DS) x => Hp M0 w0 S (appRes 107 5 x :: cellsRes true b2 41 [slice 9 (es.map rowEp), edgs gs2, andIs x (itms its)] :: cellsRes true b1 41 (([.slice none 0 0, .slice none 0 0, .slice none 0 0] : List Value).map is) :: diceS b s5 :: extRes M1 w1 :: rs)) (fun (q : Int) (its : List Itm) (s5 : DS) => 0 ≤ q ∧ q + its.length ≤ 2 ∧ ∀ x ∈ its, ItmS x) (fun (q : Int) (its : List Itm) (s5 : DS) => q.toNat) (_) ([]) (_) (.slice none 0 0) (⟨by omega, by simp; omega, fun x h => by simp at h⟩) ⟨ke rfl, trivial⟩ (fun _ _ h => h) ?_
 rintro q its s5 x ⟨hq1, hq2, hqi⟩
 refine Tr.seq (Tr.seq (Tr.reg0 (cm rfl (co rfl (ki rfl rfl rfl rfl) (Ch.nil (Fin.go ?_))))))
 refine Tr.cn rfl ?_ ?_ <;> intro h9 q9
 have hq3 : 0 < q := of_decide_eq_true h9
 refine Tr.skip (Fin.go (Tr.seq (Tr.block (Tr.pad (Tr.regX mixed [none, some (0, 2, false, 0), none, none, none, some (0, 4, true, 0), some (0, 4, true, 0), none, some (0, 1, true, 119), none, some (0, 2, true, 119)] (by kernel_rfl) (xo rfl (fun _ => okp_fieldAddr rfl fo41_2 (vl rfl)) (xrd 2 rfl rfl (rd_load1 rfl one39 (vl rfl) rfl) (xm rfl (xm rfl (xo rfl (fun _ => ok_buildSlice (xs := [.const (.string ⟨[98, 97, 99, 107, 117, 112].toArray⟩), .const (.string ⟨[100, 101, 101, 100].toArray⟩)]) (rows := [[_], [_]]) rfl rfl Tryz.underlying74 sz9 z9 rfl (by decide) ⟨⟨(by exact rfl), (VL.le (vl rfl) (one_cellsP _))⟩, ⟨⟨(by exact rfl), (VL.le (vl rfl) (one_cellsP _))⟩, trivial⟩⟩ (by decide)) ?_))))))))))
 refine Cx.ef 4 rfl rfl (by decide) (ef_callc rfl rfl (by decide) rfl (w_DWordE (l := [[98, 97, 99, 107, 117, 112], [100, 101, 101, 100]]) (by simp) (by simp)) ⟨ke rfl, ⟨_, rfl, full_le _ _⟩, trivial⟩) ?_
 refine Cx.ef 4 rfl rfl (by decide) (ef_callc rfl rfl (by decide) rfl (w_ItemF) ⟨ke rfl, ke rfl, trivial⟩) (xo rfl (fun _ => ok_buildSlice (xs := [.tmp 117]) (rows := [_]) rfl rfl Tryz.underlying39 sz107 z107 rfl (by decide) ⟨⟨(by exact rfl), (VL.le (vl rfl) (agg_cellsP _))⟩, trivial⟩ (by decide)) ?_)
 refine Cx.ef 1 rfl rfl (by decide) (ef_append rfl rfl (by decide) rfl Tryz.underlying39 sz107 by107 z107 rfl (by decide) ⟨_, rfl, andIs_le _ _⟩ ⟨_, rfl, full_le _ _⟩ (by simp only [List.length_append, List.length_cons, List.length_nil, List.length_map]; unfold maxLen; omega) (by simp only [List.length_append, List.length_cons, List.length_nil, List.length_map]; omega) (appR_is (by exact List.Mem.head _) ⟨_, rfl, andIs_is _ _⟩)) ?_
 refine xo rfl (fun _ => okp_fieldAddr rfl fo41_2 (vl rfl)) (Cx.ef0 2 rfl rfl (ef_storeS rfl rfl rfl (vl rfl) rfl sz39 (by exact Nat.le_of_ble_eq_true rfl)) ?_)
 refine Cx.nil ⟨rfl, ?_⟩
 refine FinX.open2 1 2 119 rfl rfl (by decide) rfl (fun v6 => ?_)
 refine FinX.done (AllC.cons (AllC.cons (AllC.cons (AllC.cons (AllC.cons (AllC.cons (AllC.map _))))))) (Fin.block (Fin.go (Tr.drop 0 (wk4 0 2 3 10 rfl (Tr.reg0 (cm rfl (csu rfl rfl rfl rfl (by omega) (cm rfl (Ch.nil ?_)))))))))
 refine Fin.reC 1 [slice 9 (es.map rowEp), edgs gs2, andIs v6 (itms (its ++ [(itemF s5.adv (wordOf s5 [backup, deed]))]))] rfl ⟨Pr.le_refl _, Pr.le_refl _, own_le (by rw [List.map_append]; rfl), trivial⟩ ?_
 exact Fin.famD3V1 (q - 1) (its ++ [(itemF s5.adv (wordOf s5 [backup, deed]))]) (_) v6 (⟨⟨by omega, by simp; omega, its_snoc hqi (item_ok (word_ok s5))⟩, by omega⟩) ⟨⟨_, rfl, int_eq (by omega)⟩, ke rfl, ke rfl, ke rfl, trivial⟩ (fun _ _ h => h)
 have hq3 : ¬ 0 < q := of_decide_eq_false h9
 refine Tr.exit (Fin.then_exit (Fin.then_exit (Fin.block_here (Fin.go (Tr.seq (Tr.regT (TO.rd 1 rfl rfl rfl (by decide) (rd_loadA rfl agg41 sz41 (vl rfl) rfl rfl) (TO.store_all 2 rfl rfl rfl (vl rfl) (VL.le (vl rfl) (agg_cellsP _)) rfl sz41 rfl rfl (TO.nil (Fin.go (Tr.ret (Fin.closeD 3 _ rfl rfl (Fin.retY1 [_, _, _] rfl (RVal.cell 2 rfl rfl agg41 sz41 rfl (Pr.le_refl _)) ?_ (fun _ _ _ _ => rfl))))))))))))))
 · exact ex_in ⟨es, gs2, its⟩ (fact_in ⟨by show 2 ≤ es.length; omega, by show es.length ≤ 3; omega, hk3, by show ∀ k, k < gs2.length → edgeAt es.length gs2 k = true; rw [hk2, hke]; exact hge2, hge3, hge4, hqi, by show its.length ≤ 2; omega⟩ (agg_le ⟨Pr.le_refl _, Pr.le_refl _, andIs_le _ _, trivial⟩))
 refine Tr.skip (Fin.go (Tr.seq (Tr.seq ?_)))
 have hv9 := s3.val_in (n := 3) (by omega)
 obtain ⟨gs2, hge, hge2, hge3, hge4⟩ : ∃ l : List Edg, l = gs ∧ (∀ k, k < l.length → edgeAt (2 + s.val 2).toNat l k = true) ∧ 1 ≤ l.length ∧ l.length ≤ 3 := ⟨_, rfl, hi3.at_, by have h_ := h8; simp at h_; exact List.length_pos_iff.2 h_, hi2⟩
 refine Tr.reC 1 [slice 9 (es.map rowEp), edgs gs2, is (.slice none 0 0)] rfl ⟨Pr.le_refl _, Pr.le_trans (andIs_le _ _) (Pr.le_of_eq (by rw [hge])), Pr.le_refl _, trivial⟩ (Tr.drop 0 (Tr.regT (tm rfl (TO.efc 2 rfl rfl (by decide) (ef_callc rfl rfl (by decide) rfl (w_DNext (by omega) (by omega)) ⟨ke rfl, ke rfl, trivial⟩) (tm rfl (TO.nil (Fin.go (wk4 0 2 3 10 rfl (Tr.block (Tr.reC 0 [slice 9 (es.map rowEp), edgs gs2, andIs (.slice none 0 0) (itms [])] rfl ⟨Pr.le_refl _, Pr.le_refl _, own_nil rfl, trivial⟩ (Tr.addnil 107 5 ?_)))))))))))
 refine Tr.loopD3V1 [(0, _), (2, _), (3, _)] ⟨ke rfl, ke rfl, ke rfl, trivial⟩ (fun (q : Int) (its : List Itm) (s5 : DS) x => [(10, int q)]) (fun (q : Int) (its : List Itm) (s5 : DS) x => Hp M0 w0 S (appRes 107 5 x :: cellsRes true b2 41 [slice 9 (es.map rowEp), edgs gs2, andIs x (itms its)] :: cellsRes true b1 41 (([.slice none 0 0, .slice none 0 0, .slice none 0 0] : List Value).map is) :: diceS b s5 :: extRes M1 w1 :: rs)) (fun (q : Int) (its : List Itm) (s5 : DS) => 0 ≤ q ∧ q + its.length ≤ 2 ∧ ∀ x ∈ its, ItmS x) (fun (q : Int) (its : List Itm) (s5 : DS) => q.toNat) (_) ([]) (_) (.slice none 0 0) (⟨by omega, by simp; omega, fun x h => by simp at h⟩) ⟨ke rfl, trivial⟩ (fun _ _ h => h) ?_
 rintro q its s5 x ⟨hq1, hq2, hqi⟩
 refine Tr.seq (Tr.seq (Tr.reg0 (cm rfl (co rfl (ki rfl rfl rfl rfl) (Ch.nil (Fin.go ?_))))))
 refine Tr.cn rfl ?_ ?_ <;> intro h10 q10
 have hq3 : 0 < q := of_decide_eq_true h10
 refine Tr.skip (Fin.go (Tr.seq (Tr.block (Tr.pad (Tr.regX mixed [none, some (0, 2, false, 0), none, none, none, some (0, 4, true, 0), some (0, 4, true, 0), none, some (0, 1, true, 119), none, some (0, 2, true, 119)] (by kernel_rfl) (xo rfl (fun _ => okp_fieldAddr rfl fo41_2 (vl rfl)) (xrd 2 rfl rfl (rd_load1 rfl one39 (vl rfl) rfl) (xm rfl (xm rfl (xo rfl (fun _ => ok_buildSlice (xs := [.const (.string ⟨[98, 97, 99, 107, 117, 112].toArray⟩), .const (.string ⟨[100, 101, 101, 100].toArray⟩)]) (rows := [[_], [_]]) rfl rfl Tryz.underlying74 sz9 z9 rfl (by decide) ⟨⟨(by exact rfl), (VL.le (vl rfl) (one_cellsP _))⟩, ⟨⟨(by exact rfl), (VL.le (vl rfl) (one_cellsP _))⟩, trivial⟩⟩ (by decide)) ?_))))))))))
 refine Cx.ef 4 rfl rfl (by decide) (ef_callc rfl rfl (by decide) rfl (w_DWordE (l := [[98, 97, 99, 107, 117, 112], [100, 101, 101, 100]]) (by simp) (by simp)) ⟨ke rfl, ⟨_, rfl, full_le _ _⟩, trivial⟩) ?_
 refine Cx.ef 4 rfl rfl (by decide) (ef_callc rfl rfl (by decide) rfl (w_ItemF) ⟨ke rfl, ke rfl, trivial⟩) (xo rfl (fun _ => ok_buildSlice (xs := [.tmp 117]) (rows := [_]) rfl rfl Tryz.underlying39 sz107 z107 rfl (by decide) ⟨⟨(by exact rfl), (VL.le (vl rfl) (agg_cellsP _))⟩, trivial⟩ (by decide)) ?_)
 refine Cx.ef 1 rfl rfl (by decide) (ef_append rfl rfl (by decide) rfl Tryz.underlying39 sz107 by107 z107 rfl (by decide) ⟨_, rfl, andIs_le _ _⟩ ⟨_, rfl, full_le _ _⟩ (by simp only [List.length_append, List.length_cons, List.length_nil, List.length_map]; unfold maxLen; omega) (by simp only [List.length_append, List.length_cons, List.length_nil, List.length_map]; omega) (appR_is (by exact List.Mem.head _) ⟨_, rfl, andIs_is _ _⟩)) ?_
 refine xo rfl (fun _ => okp_fieldAddr rfl fo41_2 (vl rfl)) (Cx.ef0 2 rfl rfl (ef_storeS rfl rfl rfl (vl rfl) rfl sz39 (by exact Nat.le_of_ble_eq_true rfl)) ?_)
 refine Cx.nil ⟨rfl, ?_⟩
 refine FinX.open2 1 2 119 rfl rfl (by decide) rfl (fun v7 => ?_)
 refine FinX.done (AllC.cons (AllC.cons (AllC.cons (AllC.cons (AllC.cons (AllC.cons (AllC.map _))))))) (Fin.block (Fin.go (Tr.drop 0 (wk4 0 2 3 10 rfl (Tr.reg0 (cm rfl (csu rfl rfl rfl rfl (by omega) (cm rfl (Ch.nil ?_)))))))))
 refine Fin.reC 1 [slice 9 (es.map rowEp), edgs gs2, andIs v7 (itms (its ++ [(itemF s5.adv (wordOf s5 [backup, deed]))]))] rfl ⟨Pr.le_refl _, Pr.le_refl _, own_le (by rw [List.map_append]; rfl), trivial⟩ ?_
 exact Fin.famD3V1 (q - 1) (its ++ [(itemF s5.adv (wordOf s5 [backup, deed]))]) (_) v7 (⟨⟨by omega, by simp; omega, its_snoc hqi (item_ok (word_ok s5))⟩, by omega⟩) ⟨⟨_, rfl, int_eq (by omega)⟩, ke rfl, ke rfl, ke rfl, trivial⟩ (fun _ _ h => h)
 have hq3 : ¬ 0 < q := of_decide_eq_false h10
 refine Tr.exit (Fin.then_exit (Fin.then_exit (Fin.block_here (Fin.go (Tr.seq (Tr.regT (TO.rd 1 rfl rfl rfl (by decide) (rd_loadA rfl agg41 sz41 (vl rfl) rfl rfl) (TO.store_all 2 rfl rfl rfl (vl rfl) (VL.le (vl rfl) (agg_cellsP _)) rfl sz41 rfl rfl (TO.nil (Fin.go (Tr.ret (Fin.closeD 3 _ rfl rfl (Fin.retY1 [_, _, _] rfl (RVal.cell 2 rfl rfl agg41 sz41 rfl (Pr.le_refl _)) ?_ (fun _ _ _ _ => rfl))))))))))))))
 · exact ex_in ⟨es, gs2, its⟩ (fact_in ⟨by show 2 ≤ es.length; omega, by show es.length ≤ 3; omega, hk3, by show ∀ k, k < gs2.length → edgeAt es.length gs2 k = true; rw [hk2, hke]; exact hge2, hge3, hge4, hqi, by show its.length ≤ 2; omega⟩ (agg_le ⟨Pr.le_refl _, Pr.le_refl _, andIs_le _ _, trivial⟩))
end Go.Proofs.YtppeeogffbpcbaaGreat
namespace Go.Proofs.YtppeeogffbpcbaaGreat
open Go Go.RowKit Cp

theorem SndSt.sz {e : Est} (h : SndSt e) : e.sz 5 := by
  have h3 := h.n3; have g3 := h.g3; have i2 := h.i2
  refine ⟨fun x hx => ?_, fun x hx => ⟨by have := (h.it x hx).name; unfold maxLen; omega, by have := (h.it x hx).links; omega⟩, by omega, by omega, by omega⟩
  obtain ⟨i, hi⟩ := List.getElem?_of_mem hx
  exact sndE_sz (h.snd i x hi)
theorem zeroSt_sz : zeroSt.sz 0 := ⟨(fun x hx => by cases hx), (fun x hx => by cases hx), Nat.zero_le _, Nat.zero_le _, Nat.zero_le _⟩
theorem zeroSt_ok : estB zeroSt = true := by decide
theorem apl_zero (c : Chg) (h : c.endpoint = 0) : aplE zeroSt c = (zeroSt, 40) := by
  unfold aplE; rw [if_neg (by rw [zeroSt_ok]; decide)]; unfold stp; rw [apE_bad (.inr (by rw [h]; exact Int.le_refl _))]; rfl
theorem eapl_of {e : Est} {c : Chg} {n : Nat} {x : Est} {f : Int} (h : aplE e c = (x, f)) (hz : e.sz n) (hn : n ≤ 800000) (hc : c.idn.fits ∧ c.idn.small) : Fun Tryz.prog 33 [agg (rowSt e), agg (rowChg c)] (tup [agg (rowSt x), int f]) := by
  have := w_EsApply (e := e) (c := c) hz hn hc; rw [h] at this; exact this

theorem w_awake25   : Fun Tryz.prog 28 [] (bool true) := by
 refine fo Tryz.func28 rfl ⟨rfl, rfl⟩ fun M0 w0 => ?_
 refine ac ?_
 refine ac ?_
 refine co rfl (ok_call rfl (w_EsIndex (e := zeroSt) (n := [97, 112, 112])) ⟨⟨_, rfl, agg_le ⟨nil_slice 9, nil_slice 2, nil_slice 5, trivial⟩⟩, ke rfl, trivial⟩) ?_
 refine ac ?_
 refine ao ?_
 refine tp rfl (ok_call rfl (eapl_of (e := zeroSt) (c := ⟨0, 1, 0, 0, zeroId⟩) (apl_zero _ rfl) zeroSt_sz (by omega) ⟨id0_fits, id0_small⟩) ⟨⟨_, rfl, agg_le ⟨nil_slice 9, nil_slice 2, nil_slice 5, trivial⟩⟩, ⟨_, rfl, agg_le ⟨Pr.le_refl _, Pr.le_refl _, Pr.le_refl _, Pr.le_refl _, Pr.le_refl _, Pr.le_refl _, Pr.le_refl _, nil_slice 15, trivial⟩⟩, trivial⟩) ?_
 refine ao ?_
 refine TO.alloc rfl rfl (by decide) rfl z41 zo41 (fun b1 => ?_)
 refine sf 0 3 ⟨rfl, rfl, rfl⟩ rfl rfl rfl rfl ?_
 refine ao ?_
 refine wk2 2 4 rfl ?_
 refine ac ?_
 refine Ch.cs 18 rfl ?_ ?_ <;> intro h1 q1
 refine ac ?_
 refine Ch.cs 22 rfl ?_ ?_ <;> intro h2 q2
 refine ac ?_
 refine cy h2 rfl (ok_call rfl (w_EsSame (a := zeroSt) (b := zeroSt)) ⟨⟨_, rfl, agg_le ⟨nil_slice 9, nil_slice 2, nil_slice 5, trivial⟩⟩, ⟨_, rfl, agg_le ⟨nil_slice 9, nil_slice 2, nil_slice 5, trivial⟩⟩, trivial⟩) ?_
 refine ac ?_
 refine Ch.cs 27 rfl ?_ ?_ <;> intro h3 q3
 refine ac ?_
 refine cy h3 rfl (ok_build (rows := [(1, [_])]) rfl bl41 zo41 ⟨⟨rfl, ⟨_, rfl, Pr.le_trans (full_le _ _) (one_cellsP _)⟩⟩, trivial⟩ rfl) ?_
 refine cy h3 rfl (ok_call rfl (w_EsSame (a := zeroSt) (b := ⟨[], [⟨0, 1⟩], []⟩)) ⟨⟨_, rfl, agg_le ⟨nil_slice 9, nil_slice 2, nil_slice 5, trivial⟩⟩, ⟨_, rfl, agg_le ⟨nil_slice 9, Pr.le_of_eq rfl, nil_slice 5, trivial⟩⟩, trivial⟩) ?_
 refine ac ?_
 refine wk1 0 rfl ?_
 refine ac ?_
 · exact bool_eq (by decide)
 exact absurd h3 (by decide)
 exact absurd h2 (by decide)
 exact absurd h1 (by decide)
end Go.Proofs.YtppeeogffbpcbaaGreat
namespace Go.Proofs.YtppeeogffbpcbaaGreat
open Go Go.RowKit Cp Go.ChangeShapes Go.WideShapes Go.ChangeAt

/-- One change of an estate that is valid, and the same of the endpoint alone. -/
theorem apl_at {e : Est} {c : Chg} {x : Ept} (h : estB e = true) (h0 : 0 ≤ c.endpoint) (hx : e.eps[c.endpoint.toNat]? = some x) : aplE e c = if (doneR x c).2.2 = 0 then (⟨e.eps.set c.endpoint.toNat (doneR x c).1, e.edges, e.items⟩, 0) else (zeroSt, (doneR x c).2.2) := by
  have hlt := lt_of_at hx
  unfold aplE; rw [if_neg (by rw [h]; decide)]
  unfold stp; rw [apE_at (by omega) hx]
  by_cases h0 : (doneR x c).2.2 = 0
  · simp only [if_pos h0, if_true]
  · simp only [if_neg h0]
theorem set_ne {e : Est} {k : Nat} {x y : Ept} (hx : e.eps[k]? = some x) (hn : y ≠ x) : (⟨e.eps.set k y, e.edges, e.items⟩ : Est) ≠ e := by
  intro h
  have h1 : e.eps.set k y = e.eps := congrArg Est.eps h
  have h2 : (e.eps.set k y)[k]? = some y := List.getElem?_set_self (lt_of_at hx)
  rw [h1, hx] at h2
  exact hn (Option.some.inj h2).symm
theorem rap25_of {e : Ept} {c : Chg} {e2 : Ept} {b : Chg} {f : Int} {n : Nat} (h : doneR e c = (e2, b, f)) (hz : e.sz n) (hn : n ≤ 900000) (hi : c.idn.fits ∧ c.idn.small) : Fun Tryz.prog 19 [agg (rowEp e), agg (rowChg c)] (tup [agg (rowEp e2), int f]) := by
  have := w_R24Apply (e := e) (c := c) hz hn hi; rw [h] at this; exact this

theorem w_EstateOthers {t : List Int}  : Fun Tryz.prog 5 [ints t] (bool true) := by
 refine fo Tryz.func5 rfl ⟨rfl, rfl⟩ fun M0 w0 => ?_
 refine ac ?_
 refine ac ?_
 refine co rfl (kc1 (w_Light) rfl rfl) ?_
 refine ac ?_
 refine Tr.cn rfl ?_ ?_ <;> intro h1 q1
 refine Tr.seq (Tr.reg0 (co rfl (kc0 (w_awake25) rfl) ?_))
 refine ac ?_
 refine ac ?_
 · exact Pr.le_refl _
 have ht4 : t.length ≤ 400 := by simpa using h1
 have ht9 : t.length ≤ 1000000000 := by omega
 refine ac ?_
 refine ao ?_
 refine TO.pad ?_
 refine TO.efs 0 rfl rfl (by decide) (ef_call rfl rfl (by decide) rfl (w_Roll (l := t) ht9) ⟨ke rfl, trivial⟩) (fun v1 => ?_)
 refine TO.opn 16 0 _ rfl rfl (fun _ => rfl) (fun b1 => ?_)
 refine ao ?_
 refine ao ?_
 refine TO.efc 0 rfl rfl (by decide) (ef_callc rfl rfl (by decide) rfl (w_SoundS) ⟨ke rfl, trivial⟩) ?_
 refine TO.ex 18 rfl (fun z1 => TO.fact 18 rfl fun hz1 => ?_)
 have hez := hz1.sz
 have hok := hz1.ok
 have hn2 := hz1.n2
 have hn3 := hz1.n3
 refine TO.alloc rfl rfl (by decide) rfl z41 zo41 (fun b2 => ?_)
 refine sf 0 4 ⟨rfl, rfl, rfl⟩ rfl rfl rfl rfl ?_
 refine TO.nil (Fin.openD 0 rfl (fun s1 => ?_))
 refine Fin.go ?_
 refine ao ?_
 refine TO.efc 0 rfl rfl (by decide) (ef_callc rfl rfl (by decide) rfl (w_Any (es := z1.eps) hz1.snd ⟨by omega, by omega⟩) ⟨ke rfl, ke rfl, trivial⟩) ?_
 refine TO.ex 21 rfl (fun z2 => TO.fact 21 rfl fun hz2 => ?_)
 have hci : z2.idn.fits ∧ z2.idn.small := ⟨hz2.fits, hz2.small⟩
 have hlo := hz2.lo
 have hhi := hz2.hi
 obtain ⟨e, he0⟩ := at_ (l := z1.eps) (k := z2.endpoint.toNat) (by omega)
 have hes := hez.eps e (List.mem_of_getElem? he0)
 obtain ⟨x, b, f, hr⟩ : ∃ x b f, doneR e z2 = (x, b, f) := ⟨_, _, _, rfl⟩
 have hA := apl_at hok hlo he0
 rw [hr] at hA
 dsimp only at hA
 obtain ⟨y, g, hy⟩ : ∃ y g, aplE z1 z2 = (y, g) := ⟨_, _, rfl⟩
 rw [hy] at hA
 have hgf : g = f := by by_cases h0 : f = 0; (rw [if_pos h0] at hA; have := (Prod.mk.inj hA).2; omega); (rw [if_neg h0] at hA; exact (Prod.mk.inj hA).2)
 refine TO.alloc rfl rfl (by decide) rfl z29 zo29 (fun b3 => ?_)
 refine sf 0 5 ⟨rfl, rfl, rfl⟩ rfl rfl rfl rfl ?_
 refine TO.nil (Fin.openD 0 rfl (fun s2 => ?_))
 refine Fin.go (wk2 4 5 rfl ?_)
 refine ao ?_
 refine tp rfl (kc2 (eapl_of hy hez (by omega) hci) rfl rfl rfl) ?_
 refine ao ?_
 refine TO.alloc rfl rfl (by decide) rfl z41 zo41 (fun b4 => ?_)
 refine sf 0 6 ⟨rfl, rfl, rfl⟩ rfl rfl rfl rfl ?_
 refine ao ?_
 refine Tr.seq (Tr.pad (Tr.rx ?_))
 refine ax ?_
 refine xo rfl (fun _ => ok_indexAddr rfl Tryz.underlying37 sz32 (vl rfl) (vl rfl) (by omega) (row_atI (f := rowEp) he0)) ?_
 refine ax ?_
 refine xo rfl (fun _ => kc2 (rap25_of hr hes (by omega) hci) rfl rfl rfl) ?_
 refine ax ?_
 refine Cx.ef 0 rfl rfl (by decide) (ef_allocX rfl rfl (by decide) rfl z32 zo32) (Cx.ef0 0 rfl rfl (ef_storeX rfl rfl rfl rfl (VL.le (vl rfl) (agg_cellsP _)) sz32 rfl rfl) (xm rfl ?_))
 refine Cx.nil ⟨by kernel_rfl, ?_⟩
 refine FinX.open_ 0 8 rfl rfl (fun v2 => ?_)
 refine FinX.done al2 (Fin.opn 8 0 _ rfl rfl (fun _ => rfl) (fun b5 => ?_))
 refine Fin.go (wk6 4 5 6 7 8 9 rfl ?_)
 refine ac ?_
 refine Tr.cn rfl ?_ ?_ <;> intro h2 q2
 exfalso; have := q2; omega
 refine ac ?_
 refine ac ?_
 refine Tr.cn rfl ?_ ?_ <;> intro h3 q3
 have hyz : y = zeroSt := by rw [if_neg (by have := q3; omega)] at hA; exact (Prod.mk.inj hA).1
 refine ac ?_
 refine co rfl (ok_call rfl (w_EsSame (a := y) (b := zeroSt)) ⟨ke rfl, ⟨_, rfl, agg_le ⟨nil_slice 9, nil_slice 2, nil_slice 5, trivial⟩⟩, trivial⟩) ?_
 refine cm rfl ?_
 refine Ch.cs 47 rfl ?_ ?_ <;> intro h4 q4
 refine cy h4 rfl (kc0 (w_awake25) rfl) ?_
 refine ac ?_
 refine Tr.drop 0 (wk1 2 rfl ?_)
 refine ac ?_
 · exact Pr.le_refl _
 exact absurd hyz (of_decide_eq_false h4)
 obtain rfl : f = 0 := by have := q3; omega
 have hyz : y = ⟨z1.eps.set z2.endpoint.toNat x, z1.edges, z1.items⟩ := by rw [if_pos rfl] at hA; exact (Prod.mk.inj hA).1
 have hne : y ≠ z1 := by rw [hyz]; exact set_ne he0 (done_twice hr).2.2.1
 have hye : y.edges = z1.edges := by rw [hyz]
 refine ac ?_
 refine ao ?_
 refine TO.callV rfl rfl (by decide) rfl (w_R25CopyV hez (by omega)) ⟨ke rfl, trivial⟩ (fun v3 => ?_)
 refine TO.alloc rfl rfl (by decide) rfl z41 zo41 (fun b6 => ?_)
 refine TO.store_all 0 rfl rfl rfl (vl rfl) (VL.le (vl rfl) (agg_cellsP _)) rfl sz41 rfl rfl ?_
 refine ao ?_
 refine wk5 4 5 6 8 10 rfl ?_
 refine ao ?_
 refine tp rfl (ok_rd 1 rfl (rd_elp rfl Tryz.underlying37 sz32 (vl rfl) (vl rfl) (by omega) (by rw [List.length_map]; omega))) ?_
 refine TO.ef0 1 rfl rfl (ef_elstore rfl rfl (vl rfl) (VL.le (vl rfl) (agg_cellsP _)) sz32 rfl (map_rows fun _ => rfl) (by rw [List.getElem?_map, he0]; rfl) (by decide) (show _ = (z1.eps.set z2.endpoint.toNat x).map rowEp by rw [List.map_set]; rfl)) ?_
 refine ao ?_
 refine Tr.drop 2 (Tr.seq (Tr.frzWC 0 1 0 rfl rfl (by decide) rfl (Pr.le_refl _) (map_rows fun _ => rfl) ?_))
 refine ac ?_
 refine co rfl (kc2 (w_EsSame (a := y) (b := ⟨z1.eps.set z2.endpoint.toNat x, z1.edges, z1.items⟩)) rfl rfl rfl) ?_
 refine cm rfl ?_
 refine Ch.cs 61 rfl ?_ ?_ <;> intro h5 q5
 refine ac ?_
 refine cy h5 rfl (kc2 (w_EsSame (a := y) (b := z1)) rfl rfl rfl) ?_
 refine ac ?_
 refine Ch.cs 67 rfl ?_ ?_ <;> intro h6 q6
 refine ac ?_
 refine Ch.cs 76 rfl ?_ ?_ <;> intro h7 q7
 refine cy h7 rfl (kc0 (w_awake25) rfl) ?_
 refine ac ?_
 refine Tr.drop 1 (wk1 2 rfl ?_)
 refine ac ?_
 · exact Pr.le_refl _
 exfalso; rw [hye] at h7; simp at h7
 have h_ := h6
 cases hd : decide (y = z1) with
 | true => exact absurd (of_decide_eq_true hd) hne
 | false => rw [hd] at h_; cases h_
 exact absurd hyz (of_decide_eq_false h5)
theorem estateOthers_lifted (os : Os) (started : os.Started) (H : Type) (enc : TypeId × Value → H) :
    ReturnsInHanded {} Tryz.checked os 5 .any (Rows.estateOthersSpec.pre6 enc Tryz.prog Tryz.f5 Rows.estateOthersRow.domain false) (Rows.estateOthersSpec.post enc Tryz.prog Tryz.f5 false true false false) := by
  refine returnsInHanded_of_change (C := Tryz.checked) own0 started (by kernel_rfl) Tryz.func5
    (ChangeSpec.witness6 (enc := enc) (C := Tryz.checked) false ⟨#[], #[.slice none 0 0], []⟩ 8 (by kernel_rfl) (by kernel_rfl) (by kernel_rfl) (by kernel_rfl)) ?_
  intro W base args ds gs before hval0 hW hcnd _
  have hval : ∀ (j : Nat) t v, Tryz.f5.params[j]? = some t → args[j]? = some v → Value.okWide Tryz.prog W .any base t v := hval0
  have hW' := hW
  obtain ⟨p, q, hA0, hV, hpq, hfz, hnd⟩ := hW
  have hA : DataW.TrodAll enc Tryz.prog W 0 (fun _ => true) true Tryz.f5.params.toList args.toList ds p := hA0
  have hA' := hA
  rw [Tryz.params5] at hA hval
  obtain ⟨v0, d0, rfl, rfl, h0⟩ := trodAll_one hA
  obtain ⟨rfl, rfl⟩ := trodVars_none hV
  obtain ⟨a0, hr0, e0⟩ := arg_one (opens_ints Tryz.underlying22 Tryz.underlying3 (by kernel_rfl)) h0 (by obtain ⟨_, _, _, rfl⟩ := okWide_slice Tryz.underlying22 (hval 0 22 v0 rfl rfl); rfl)
  refine ((w_EstateOthers).2 noM W [v0] (noM_bd W) ⟨e0, trivial⟩).mono fun e W' ⟨v, he, hv, hb⟩ => ?_
  subst he
  obtain rfl : v = .bool true := hv
  exact ⟨_, rfl, law_post laidOut0 (by kernel_rfl) rfl Tryz.underlying4 rfl hA' (by rw [hpq]; simp) hW' rfl hb⟩
theorem estateOthers_fact_a : (Rows.estateOthersRow.inPlace == Tryz.pinned.checked.prog.inPlace 5) = true := by kernel_rfl
theorem estateOthers_fact_b : (Rows.estateOthersRow.unfollowed == Tryz.pinned.checked.prog.unfollowed 5) = true := by kernel_rfl
theorem estateOthers_fact_c : (Rows.estateOthersRow.recurses == Tryz.pinned.checked.prog.recurses 5) = true := by kernel_rfl
theorem estateOthers_fact_d : (Rows.estateOthersRow.named == Tryz.pinned.checked.prog.varsNamed 5) = true := by kernel_rfl
theorem estateOthers_facts : joinedFacts Tryz.pinned.checked.prog 5 Tryz.f5 Rows.estateOthersSpec Rows.estateOthersRow = true := by
  unfold joinedFacts
  rw [estateOthers_fact_a, estateOthers_fact_b, estateOthers_fact_c, estateOthers_fact_d]
  kernel_rfl
theorem estateOthers_holds : Rows.EstateOthersSaid :=
  OpenClaim.holds_of_wide 5 Tryz.f5 rfl rfl rfl rfl rfl rfl rfl ⟨rfl, rfl, rfl, rfl, rfl⟩ rfl rfl rfl rfl rfl (by kernel_rfl) Tryz.func5 estateOthers_facts
    (of_decide_eq_true (by kernel_rfl)) (by unfold Func.isWrapper; first | (rw [if_pos (by decide +kernel)]; kernel_rfl) | (rw [if_neg (by decide +kernel)]; exact ⟨rfl, rfl⟩))
    (fun os started H enc _ => estateOthers_lifted os started H enc)
end Go.Proofs.YtppeeogffbpcbaaGreat
