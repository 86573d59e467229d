/-
  ReopenOnly: whatever the input, the law of this name returns true and its arguments read as before. No conditions.
-/
import Derived.Test.YtgdlhajfajddiaaGreatRoEP6
set_option linter.all false
namespace Go.Proofs.YtgdlhajfajddiaaGreat
open Go Go.RowKit Cp Go.ChangeShapes Go.WideShapes Go.ChangeAt

theorem listF_nil (l : List Fnd) : listF l [] = [] := rfl
theorem eq_of_take {a b : List Fnd} (hl : a.length = b.length) (h : a.take a.length = b.take a.length) : a = b := by rwa [List.take_length, hl, List.take_length] at h
theorem take_eq_succ {a b : List Fnd} {k : Nat} {f g : Fnd} (h : a.take k = b.take k) (hf : a[k]? = some f) (hg : b[k]? = some g) (e : f = g) : a.take (k + 1) = b.take (k + 1) := by rw [List.take_add_one, List.take_add_one, h, hf, hg, e]
theorem ents_inX {l : List Fnd} {gap : Int} {e : Ent} (he : e ∈ entsF l gap) : (∀ v ∈ e.fnds, 0 ≤ v ∧ v < (l.length : Nat)) ∧ e.fnds.length ≤ l.length := by
  obtain ⟨r, h1, h2, rfl⟩ := ents_of he
  refine ⟨fun v hv => ?_, (ent_lens _ _ _ _).1⟩
  obtain ⟨j, h3, _, h5⟩ := (fnds_mem (Nat.le_refl _)).1 hv
  omega
theorem w_REntOK {l : List Fnd} {gap : Int} (hN : NormP l) (hg : 0 ≤ gap ∧ gap ≤ 4000) : Fun Tryz.prog 16 [fnds l, int gap] (tup [ents (entsF l gap), int 0]) := by
  have := w_R15Entities (l := l) (gap := gap); rwa [entR_ok hN hg] at this

set_option maxRecDepth 20000 in
theorem w_M14 {a b : List Fnd} (hc : ∀ f ∈ a ++ b, checkF f = true) (hl : (a ++ b).length ≤ 400) : Fun Tryz.prog 54 [fnds a, fnds b] (tup [fnds (normL (a ++ b)), int 0]) := by
 refine Fun.of Tryz.func54 rfl rfl (by exact Nat.le_of_ble_eq_true rfl) fun M0 w0 => ?_
 have hll : (a ++ b).length = a.length + b.length := List.length_append ..
 refine Tr.seq (Tr.reg0 (cm rfl (cm rfl (Ch.nil (Fin.go (Tr.seq (Tr.regT (tp rfl (ok_buildSlice (xs := []) (rows := []) rfl rfl Tryz.underlying31 sz26 z26 rfl (by decide) trivial (by decide)) (tm rfl (TO.pad ?_))))))))))
 refine TO.efs 0 rfl rfl (by decide) (ef_append rfl rfl (by decide) rfl Tryz.underlying31 sz26 by26 z26 rfl (by decide) ⟨_, rfl, full_le _ _⟩ (vl rfl) (by simp only [List.length_map, List.length_append, List.length_cons, List.length_nil]; unfold maxLen; omega) (by simp only [List.length_map, List.length_append, List.length_cons, List.length_nil]; omega) (appR_full (by exact List.Mem.head _) (vl rfl))) (fun v1 => ?_)
 refine tm rfl ?_
 refine TO.efs 0 rfl rfl (by decide) (ef_append rfl rfl (by decide) rfl Tryz.underlying31 sz26 by26 z26 rfl (by decide) ⟨_, rfl, andIs_le _ _⟩ (vl rfl) (by simp only [List.length_map, List.length_append, List.length_cons, List.length_nil]; unfold maxLen; omega) (by simp only [List.length_map, List.length_append, List.length_cons, List.length_nil]; omega) (appR_is (by exact List.Mem.head _) ⟨_, rfl, andIs_is _ _⟩)) (fun v2 => ?_)
 refine tp rfl (ok_call rfl (w_R14Norm (l := a ++ b) hc hl) ⟨⟨_, rfl, Pr.le_trans (andIs_le _ _) (Pr.le_of_eq (by show slice 11 _ = slice 11 _; rw [List.nil_append, List.map_append]))⟩, trivial⟩) ?_
 refine tp rfl (ok_extract rfl (vl rfl) rfl) (tp rfl (ok_extract rfl (vl rfl) rfl) (tm rfl (tm rfl (TO.nil (Fin.go (Tr.drop 0 (Tr.ret (Fin.ret2 rfl (OutW.bse _ _) rfl ?_ rfl ?_))))))))
 · exact Pr.le_refl _
 · exact Pr.le_refl _
set_option maxRecDepth 20000 in
theorem w_list39 {l : List Fnd} {n : List Int} (hn : ∀ v ∈ n, 0 ≤ v ∧ v < (l.length : Nat)) (hl : n.length ≤ 1000) : Fun Tryz.prog 57 [fnds l, ints n] (fnds (listF l n)) := by
 refine Fun.of Tryz.func57 rfl rfl (by exact Nat.le_of_ble_eq_true rfl) fun M0 w0 => ?_
 refine Tr.lenm 0 rfl fun hlm_0 => (Tr.lenm 1 rfl fun hlm_1 => (Tr.seq (Tr.reg0 (cm rfl (Ch.nil (Fin.go (Tr.seq (Tr.reg0 (cm rfl (Ch.nil (Fin.go (Tr.seq (Tr.seq (Tr.reg0 ?_))))))))))))))
 refine cm rfl (co rfl (ok_lenm rfl Tryz.underlying22 (vl rfl)) (cm rfl (Ch.nil (Fin.go (Tr.block (Tr.addnil 26 11 ?_))))))
 refine Tr.loopV1 [(0, _), (8, _), (9, _)] ⟨ke rfl, ke rfl, ke rfl, trivial⟩ (fun k u => [(10, int ((k : Nat) : Int)), (5, andIs u (fnds (listF l (n.take k))))]) (fun k u => Hp M0 w0 noS ([appRes 26 11 u])) (fun k : Nat => k ≤ (n).length) (fun k : Nat => (n).length - k) 0 (.slice none 0 0) (Nat.zero_le _) ⟨ke rfl, ⟨_, rfl, own_nil (by rw [List.take_zero, listF_nil]; rfl)⟩, trivial⟩ (fun _ _ h => h) ?_
 rintro k u hle_k
 refine Tr.seq (Tr.reg0 (co rfl (ki rfl rfl rfl rfl) (Ch.nil (Fin.go (Tr.seq ?_)))))
 refine Tr.cn rfl ?_ ?_ <;> intro h1 q1
 have hk_k : k < (n).length := lt_of_dec h1
 obtain ⟨v, hx_k⟩ := at_ hk_k
 have hvl := hn v (List.mem_of_getElem? hx_k)
 obtain ⟨g, hg⟩ := at_ (l := l) (k := v.toNat) (by omega)
 have hlf := listF_len l (n.take k)
 rw [List.length_take] at hlf
 refine Tr.skip (Fin.go (Tr.seq (Tr.block (Tr.seq (Tr.reg0 (co rfl (ok_indexAddr rfl Tryz.underlying22 sz3 (vl rfl) (vl rfl) (by omega) (row_at hx_k)) (co rfl (kl1 rfl one3 rfl) (cm rfl (Ch.nil (Fin.go (Tr.regT (tm rfl (tm rfl ?_)))))))))))))
 refine tm rfl (tp rfl (ok_indexAddr rfl Tryz.underlying31 sz26 (vl rfl) (vl rfl) (by omega) (row_atI hg)) (tp rfl (ok_loadA rfl agg26 sz26 (vl rfl) rfl rfl) (tp rfl (ok_buildSlice (xs := [.tmp 18]) (rows := [_]) rfl rfl Tryz.underlying31 sz26 z26 rfl (by decide) ⟨⟨(by exact rfl), (VL.le (vl rfl) (agg_cellsP _))⟩, trivial⟩ (by decide)) ?_)))
 refine TO.efs 0 rfl rfl (by decide) (ef_append rfl rfl (by decide) rfl Tryz.underlying31 sz26 by26 z26 rfl (by decide) ⟨_, rfl, andIs_le _ _⟩ ⟨_, rfl, full_le _ _⟩ (by simp only [List.length_map, List.length_append, List.length_cons, List.length_nil]; unfold maxLen; omega) (by simp only [List.length_map, List.length_append, List.length_cons, List.length_nil]; omega) (appR_is (by exact List.Mem.head _) ⟨_, rfl, andIs_is _ _⟩)) (fun v1 => ?_)
 refine tm rfl (TO.nil (Fin.block (Fin.go (wk5 0 5 8 9 10 rfl (Tr.reg0 (cad rfl rfl rfl rfl (by omega) (cm rfl (Ch.nil ?_))))))))
 exact Fin.famV1 (k + 1) v1 (⟨hk_k, by omega⟩) ⟨⟨_, rfl, int_succ k⟩, ⟨_, rfl, own_le (by rw [listF_succ hx_k hg, List.map_append]; rfl)⟩, ke rfl, ke rfl, ke rfl, trivial⟩ (fun _ _ h => h)
 have he_k : k = (n).length := by have := ge_of_dec h1; omega
 subst he_k
 rw [List.take_length]
 refine Tr.exit (Fin.then_exit (Fin.then_exit (Fin.block_here (Fin.go (Tr.seq (Tr.reg0 (cm rfl (cm rfl (Ch.nil (Fin.go (Tr.ret (Fin.ret1 rfl (OutW.bse _ _) rfl ?_))))))))))))
 · exact andIs_le _ _
set_option maxRecDepth 20000 in
theorem w_same39 {a b : List Fnd}  : Fun Tryz.prog 56 [fnds a, fnds b] (bool (decide (a = b))) := by
 refine Fun.of Tryz.func56 rfl rfl (by exact Nat.le_of_ble_eq_true rfl) fun M0 w0 => ?_
 refine Tr.lenm 0 rfl fun hlm_0 => (Tr.lenm 1 rfl fun hlm_1 => (Tr.seq (Tr.reg0 (cm rfl (Ch.nil (Fin.go (Tr.seq (Tr.seq (Tr.reg0 (cm rfl (co rfl (ok_lenm rfl Tryz.underlying31 (vl rfl)) (cm rfl (co rfl (ok_lenm rfl Tryz.underlying31 (vl rfl)) ?_)))))))))))))
 refine co rfl (ki rfl rfl rfl rfl) (Ch.nil (Fin.go ?_))
 refine Tr.cn rfl ?_ ?_ <;> intro h1 q1
 have hne : ¬ a.length = b.length := fun h9 => q1 (by rw [h9])
 refine Tr.seq (Tr.reg0 (cm rfl (Ch.nil (Fin.go (Tr.ret (Fin.then_ret (Fin.ret1 rfl (OutW.bse _ _) rfl ?_)))))))
 · refine bool_eq ?_; symm; rw [decide_eq_false_iff_not]; intro h9; rw [h9] at hne; exact hne rfl
 have hle : a.length = b.length := by have := q1; omega
 refine Tr.skip (Fin.go (Tr.seq (Tr.seq (Tr.reg0 (cm rfl (co rfl (ok_lenm rfl Tryz.underlying31 (vl rfl)) (cm rfl (Ch.nil (Fin.go (Tr.block (Tr.loopw [(0, _), (1, _), (12, _)] (kk3 rfl) (fun k : Nat => [(13, int ((k : Nat) : Int))]) (fun k : Nat => k ≤ (a).length ∧ (a.take k = b.take k)) (fun k : Nat => (a).length - k) 0 (⟨Nat.zero_le _, rfl⟩) ⟨ke rfl, trivial⟩ ?_)))))))))))
 rintro k ⟨hle_k, hinv_k⟩
 refine Tr.seq (Tr.reg0 (co rfl (ki rfl rfl rfl rfl) (Ch.nil (Fin.go (Tr.seq ?_)))))
 refine Tr.cn rfl ?_ ?_ <;> intro h2 q2
 have hk_k : k < (a).length := lt_of_dec h2
 obtain ⟨fa, hx_k⟩ := at_ hk_k
 obtain ⟨fb, hgb⟩ := at_ (l := b) (k := k) (by omega)
 refine Tr.skip (Fin.go (Tr.seq (Tr.block (Tr.seq (Tr.reg0 (cm rfl (cm rfl (Ch.nil (Fin.go (Tr.seq (Tr.reg1 mixed (by kernel_rfl) (cm rfl (cm rfl ?_)))))))))))))
 refine co rfl (ok_indexAddr rfl Tryz.underlying31 sz26 (vl rfl) (vl rfl) (by omega) (row_at hx_k)) (co rfl (ok_loadA rfl agg26 sz26 (vl rfl) rfl rfl) (cm rfl (cm rfl (co rfl (ok_indexAddr rfl Tryz.underlying31 sz26 (vl rfl) (vl rfl) (by omega) (row_at hgb)) (co rfl (ok_loadA rfl agg26 sz26 (vl rfl) rfl rfl) (co rfl (ok_ne26 rfl (vl rfl) (vl rfl)) (Ch.nil (Fin.go (wk5 0 1 12 13 24 rfl ?_)))))))))
 refine Tr.cn rfl ?_ ?_ <;> intro h3 q3
 refine Tr.seq (Tr.reg0 (cm rfl (Ch.nil (Fin.go (Tr.ret (Fin.block_ret (Fin.then_ret (Fin.then_ret (Fin.block_ret (Fin.then_ret (Fin.ret1 rfl (OutW.bse _ _) rfl ?_)))))))))))
 · refine bool_eq ?_; symm; rw [decide_eq_false_iff_not]; intro h9; subst h9; rw [hx_k] at hgb; cases hgb; simp_all
 refine Tr.skip (Fin.block (Fin.go (Tr.reg0 (cad rfl rfl rfl rfl (by omega) (cm rfl (Ch.nil (Fin.fam_same (k + 1) ⟨⟨hk_k, (take_eq_succ hinv_k hx_k hgb (fnd_iff.2 (by assumption)))⟩, by omega⟩ ⟨⟨_, rfl, int_succ k⟩, ke rfl, ke rfl, ke rfl, trivial⟩)))))))
 have he_k : k = (a).length := by have := ge_of_dec h2; omega
 subst he_k
 refine Tr.exit (Fin.then_exit (Fin.then_exit (Fin.block_here (Fin.go (Tr.seq (Tr.reg0 (cm rfl (Ch.nil (Fin.go (Tr.ret (Fin.ret1 rfl (OutW.bse _ _) rfl ?_)))))))))))
 · refine bool_eq ?_; symm; rw [decide_eq_true_eq]; exact eq_of_take hle hinv_k
set_option maxRecDepth 20000 in
theorem w_ReopenOnly {t : List Int} {a : Int} (ha : 0 ≤ a ∧ a < 256) : Fun Tryz.prog 7 [ints t, is (.int .u8 a)] (bool true) := by
 refine Fun.of Tryz.func7 rfl rfl (by exact Nat.le_of_ble_eq_true rfl) fun M0 w0 => ?_
 have t1 : a.tmod 6 = a % 6 := Int.tmod_eq_emod_of_nonneg ha.1
 refine Tr.seq (Tr.reg0 (cm rfl (Ch.nil (Fin.go (Tr.seq (Tr.seq (Tr.reg0 (cm rfl (co rfl (ok_call rfl (w_Light) ⟨ke rfl, trivial⟩) (co rfl (ok_not rfl (vl rfl)) (Ch.nil (Fin.go ?_))))))))))))
 refine Tr.cn rfl ?_ ?_ <;> intro h1 q1
 refine Tr.seq (Tr.reg0 (co rfl (ok_call rfl (w_awake39) trivial) (cm rfl (Ch.nil (Fin.go (Tr.ret (Fin.then_ret (Fin.ret1 rfl (OutW.bse _ _) rfl ?_))))))))
 · exact Pr.le_refl _
 have ht4 : t.length ≤ 400 := by simpa using h1
 have ht9 : t.length ≤ 1000000000 := by omega
 refine Tr.skip (Fin.go (Tr.seq (Tr.regT (tm rfl (TO.pad ?_)))))
 refine TO.efs 0 rfl rfl (by decide) (ef_call rfl rfl (by decide) rfl (w_Roll (l := t) ht9) ⟨ke rfl, trivial⟩) (fun v1 => ?_)
 refine TO.opn 32 0 _ rfl rfl (fun _ => rfl) (fun b1 => ?_)
 refine tm rfl (TO.nil (Fin.go (Tr.seq (Tr.regT (tm rfl ?_)))))
 refine TO.efc 0 rfl rfl (by decide) (ef_callc rfl rfl (by decide) rfl (w_known (m := 10) (by omega)) ⟨ke rfl, ke rfl, trivial⟩) ?_
 refine TO.ex 34 rfl (fun z1 => TO.fact 34 rfl fun hz1 => ?_)
 refine tm rfl (TO.nil (Fin.openD 0 rfl (fun s1 => ?_)))
 refine Fin.go (Tr.seq (Tr.regT (tm rfl (TO.efc 0 rfl rfl (by decide) (ef_callc rfl rfl (by decide) rfl (w_about) ⟨ke rfl, trivial⟩) ?_))))
 refine TO.ex 36 rfl (fun z2 => TO.fact 36 rfl fun hz2 => ?_)
 refine TO.alloc rfl rfl (by decide) rfl z26 zo26 (fun b2 => ?_)
 refine TO.store_all 0 rfl rfl rfl (vl rfl) (VL.le (vl rfl) (agg_cellsP _)) rfl sz26 rfl rfl (TO.freeze 0 7 rfl rfl (TO.nil (Fin.openD 0 rfl (fun s2 => ?_))))
 refine Fin.go (wk3 1 6 7 rfl (Tr.seq ?_))
 have hl16 := hz1.len
 have hck : ∀ f ∈ z1 ++ [z2], checkF f = true := by intro f hf; rcases List.mem_append.1 hf with h | h; exact hz1.norm.check f h; (rw [List.mem_singleton] at h; subst h; exact hz2.check)
 have hNy : NormP (normL (z1 ++ [z2])) := norm_ok hck (by simp; omega)
 have hEx : (entsF z1 (a % 6)).length ≤ z1.length := by unfold entsF; rw [entsK_len]; exact rootsK_le _ _
 have hEy : (entsF (normL (z1 ++ [z2])) (a % 6)).length ≤ (normL (z1 ++ [z2])).length := by unfold entsF; rw [entsK_len]; exact rootsK_le _ _
 have hYl := hNy.len
 have hrl := reH_le (gap := (a % 6)) (f := z2) (show z1.length ≤ 20 by omega)
 refine Tr.reg0 (cm rfl (co rfl (ok_rem rfl (vl rfl) (vl rfl) (by omega)) ?_))
 refine co rfl (ok_convI rfl Tryz.underlying5 Tryz.underlying3 (vl rfl) (by unfold InI; omega)) ?_
 refine cm rfl (Ch.nil (Fin.go (Tr.seq (Tr.reg0 (cm rfl (cm rfl (co rfl (ok_loadA rfl agg26 sz26 (vl rfl) rfl rfl) ?_)))))))
 refine co rfl (ok_call rfl (w_RHostsOK (l := z1) (gap := (a % 6)) (f := z2) hz1.norm hz1.fits hz2.fits hz2.check (by have := hz1.len; omega) (by omega)) ⟨ke rfl, ⟨_, rfl, int_eq t1⟩, ke rfl, trivial⟩) ?_
 refine cm rfl (co rfl (ok_extract rfl (vl rfl) rfl) (co rfl (ok_extract rfl (vl rfl) rfl) (cm rfl (cm rfl (Ch.nil (Fin.go (wk5 6 7 8 9 10 rfl (Tr.seq (Tr.reg0 (cm rfl (co rfl (ok_loadA rfl agg26 sz26 (vl rfl) rfl rfl) (co rfl (ok_buildSlice (xs := [.tmp 49]) (rows := [_]) rfl rfl Tryz.underlying31 sz26 z26 rfl (by decide) ⟨⟨(by exact rfl), (VL.le (vl rfl) (agg_cellsP _))⟩, trivial⟩ (by decide)) ?_))))))))))))
 refine co rfl (ok_call rfl (w_M14 (a := z1) (b := [z2]) hck (by simp; omega)) ⟨ke rfl, ⟨_, rfl, full_le _ _⟩, trivial⟩) ?_
 refine cm rfl (co rfl (ok_extract rfl (vl rfl) rfl) (co rfl (ok_extract rfl (vl rfl) rfl) (cm rfl (cm rfl (Ch.nil (Fin.go (wk6 6 8 9 10 11 12 rfl (Tr.seq (Tr.reg0 (cm rfl (cm rfl ?_)))))))))))
 refine co rfl (ok_call rfl (w_REntOK (l := z1) (gap := (a % 6)) hz1.norm ⟨by omega, by omega⟩) ⟨ke rfl, ⟨_, rfl, int_eq t1⟩, trivial⟩) ?_
 refine cm rfl (co rfl (ok_extract rfl (vl rfl) rfl) (co rfl (ok_extract rfl (vl rfl) rfl) (cm rfl (cm rfl (Ch.nil (Fin.go (wk8 6 8 9 10 11 12 13 14 rfl (Tr.seq (Tr.reg0 (cm rfl (cm rfl ?_)))))))))))
 refine co rfl (ok_call rfl (w_REntOK (l := (normL (z1 ++ [z2]))) (gap := (a % 6)) hNy ⟨by omega, by omega⟩) ⟨ke rfl, ⟨_, rfl, int_eq t1⟩, trivial⟩) ?_
 refine cm rfl (co rfl (ok_extract rfl (vl rfl) rfl) (co rfl (ok_extract rfl (vl rfl) rfl) (cm rfl (cm rfl (Ch.nil (Fin.go (wk9 6 9 10 11 12 13 14 15 16 rfl (Tr.seq (Tr.seq (Tr.reg0 (cm rfl (cm rfl (cad rfl rfl rfl rfl (by omega) ?_)))))))))))))
 refine cm rfl (cad rfl rfl rfl rfl (by omega) (cm rfl (cad rfl rfl rfl rfl (by omega) (co rfl (ki rfl rfl rfl rfl) (Ch.nil (Fin.go (wk6 6 9 11 13 15 73 rfl ?_)))))))
 refine Tr.cn rfl ?_ ?_ <;> intro h2 q2
 exfalso; simp at h2
 refine Tr.skip (Fin.go (Tr.seq (Tr.seq (Tr.reg0 (cm rfl (co rfl (ok_lenm rfl Tryz.underlying35 (vl rfl)) (cm rfl (Ch.nil (Fin.go (Tr.block (Tr.loopw [(6, _), (9, _), (11, _), (13, _), (15, _), (74, _), (75, _)] (kk7 rfl) (fun i : Nat => [(76, int ((i : Nat) : Int))]) (fun i : Nat => i ≤ ((entsF z1 (a % 6))).length) (fun i : Nat => ((entsF z1 (a % 6))).length - i) 0 (Nat.zero_le _) ⟨ke rfl, trivial⟩ ?_)))))))))))
 rintro i hle_i
 refine Tr.seq (Tr.reg0 (co rfl (ki rfl rfl rfl rfl) (Ch.nil (Fin.go (Tr.seq ?_)))))
 refine Tr.cn rfl ?_ ?_ <;> intro h3 q3
 have hk_i : i < ((entsF z1 (a % 6))).length := lt_of_dec h3
 obtain ⟨x, hx_i⟩ := at_ hk_i
 have hxi := ents_inX (List.mem_of_getElem? hx_i)
 refine Tr.skip (Fin.go (Tr.seq (Tr.block (Tr.seq (Tr.regT (tp rfl (ok_indexAddr rfl Tryz.underlying35 sz55 (vl rfl) (vl rfl) (by omega) (row_at hx_i)) (tp rfl (ok_loadA rfl agg55 sz55 (vl rfl) rfl rfl) ?_)))))))
 refine TO.alloc rfl rfl (by decide) rfl z55 zo55 (fun b3 => ?_)
 refine TO.store_all 0 rfl rfl rfl (vl rfl) (VL.le (vl rfl) (agg_cellsP _)) rfl sz55 rfl rfl (TO.freeze 0 18 rfl rfl (TO.nil (Fin.go (wk9 6 9 11 13 15 18 74 75 76 rfl (Tr.seq (Tr.seq (Tr.reg0 (co rfl (kfa rfl fo55_1 rfl rfl) (co rfl (kl1 rfl one53 rfl) (cm rfl (co rfl (ok_call rfl (w_meets) ⟨ke rfl, ke rfl, trivial⟩) (Ch.nil (Fin.go ?_)))))))))))))
 refine Tr.cn rfl ?_ ?_ <;> intro h4 q4
 refine Tr.exit (Fin.then_exit (Fin.block_here (Fin.go (Tr.reg0 (cad rfl rfl rfl rfl (by omega) (cm rfl (Ch.nil (Fin.fam_same (i + 1) ⟨hk_i, by omega⟩ ⟨⟨_, rfl, int_succ i⟩, ke rfl, ke rfl, ke rfl, ke rfl, ke rfl, ke rfl, ke rfl, trivial⟩))))))))
 have hlate := late_list hz1.norm.adj hNy.adj (List.mem_of_getElem? hx_i) (far_meets hz1.norm ⟨by omega, by omega⟩ hz2.check (List.mem_of_getElem? hx_i) (fun h hh => reH_pre hh) h4)
 refine Tr.skip (Fin.go (Tr.seq (Tr.reg0 (cm rfl (Ch.nil (Fin.go (wk10 6 9 11 13 15 18 19 74 75 76 rfl (Tr.seq (Tr.seq (Tr.reg0 (cm rfl (co rfl (ok_lenm rfl Tryz.underlying35 (vl rfl)) (cm rfl ?_)))))))))))))
 refine Ch.nil (Fin.go (Tr.block (Tr.loopw [(6, _), (9, _), (11, _), (13, _), (15, _), (18, _), (74, _), (75, _), (76, _), (84, _), (85, _)] (kk11 rfl) (fun m : Nat => [(86, int ((m : Nat) : Int)), (19, bool (((entsF (normL (z1 ++ [z2])) (a % 6)).take m).any (fun d => decide (listF z1 x.fnds = listF (normL (z1 ++ [z2])) d.fnds))))]) (fun m : Nat => m ≤ ((entsF (normL (z1 ++ [z2])) (a % 6))).length) (fun m : Nat => ((entsF (normL (z1 ++ [z2])) (a % 6))).length - m) 0 (Nat.zero_le _) ⟨ke rfl, ke rfl, trivial⟩ ?_)))
 rintro m hle_m
 refine Tr.seq (Tr.reg0 (co rfl (ki rfl rfl rfl rfl) (Ch.nil (Fin.go (wk14 6 9 11 13 15 18 19 74 75 76 84 85 86 87 rfl (Tr.seq ?_))))))
 refine Tr.cn rfl ?_ ?_ <;> intro h5 q5
 have hk_m : m < ((entsF (normL (z1 ++ [z2])) (a % 6))).length := lt_of_dec h5
 obtain ⟨d, hx_m⟩ := at_ hk_m
 have hdi := ents_inX (List.mem_of_getElem? hx_m)
 refine Tr.skip (Fin.go (wk13 6 9 11 13 15 18 19 74 75 76 84 85 86 rfl (Tr.seq (Tr.block (Tr.seq (Tr.regT (tp rfl (ok_indexAddr rfl Tryz.underlying35 sz55 (vl rfl) (vl rfl) (by omega) (row_at hx_m)) (tp rfl (ok_loadA rfl agg55 sz55 (vl rfl) rfl rfl) ?_))))))))
 refine TO.alloc rfl rfl (by decide) rfl z55 zo55 (fun b4 => ?_)
 refine TO.store_all 0 rfl rfl rfl (vl rfl) (VL.le (vl rfl) (agg_cellsP _)) rfl sz55 rfl rfl (TO.freeze 0 21 rfl rfl (TO.nil (Fin.go (wk14 6 9 11 13 15 18 19 21 74 75 76 84 85 86 rfl (Tr.reg1 mixed (by kernel_rfl) (cm rfl (cm rfl ?_)))))))
 refine Ch.cs 91 rfl ?_ ?_ <;> intro h6 q6
 have hown := h6
 iterate 9 refine cnf h6 rfl ?_
 refine co rfl (kpt rfl rfl h6 rfl) (cm rfl (Ch.nil (Fin.block (Fin.go (wk13 6 9 11 13 15 18 19 74 75 76 84 85 86 rfl (Tr.reg0 (cad rfl rfl rfl rfl (by omega) (cm rfl (Ch.nil (Fin.fam_same (m + 1) ⟨hk_m, by omega⟩ ⟨⟨_, rfl, int_succ m⟩, ⟨_, rfl, bool_eq (by rw [any_snocX _ hx_m, hown, Bool.true_or])⟩, ke rfl, ke rfl, ke rfl, ke rfl, ke rfl, ke rfl, ke rfl, ke rfl, ke rfl, ke rfl, ke rfl, trivial⟩))))))))))
 have hown := h6
 refine cym h6 rfl (cy h6 rfl (kfa rfl fo55_3 rfl rfl) (cy h6 rfl (kl1 rfl one22 rfl) ?_))
 refine cy h6 rfl (ok_call rfl (w_list39 (l := z1) (n := x.fnds) hxi.1 (by omega)) ⟨ke rfl, ke rfl, trivial⟩) ?_
 refine cym h6 rfl (cy h6 rfl (kfa rfl fo55_3 rfl rfl) (cy h6 rfl (kl1 rfl one22 rfl) ?_))
 refine cy h6 rfl (ok_call rfl (w_list39 (l := (normL (z1 ++ [z2]))) (n := d.fnds) hdi.1 (by omega)) ⟨ke rfl, ke rfl, trivial⟩) ?_
 refine cy h6 rfl (ok_call rfl (w_same39) ⟨ke rfl, ke rfl, trivial⟩) (co rfl (kpf rfl rfl h6 rfl) (cm rfl (Ch.nil (Fin.block (Fin.go (wk13 6 9 11 13 15 18 19 74 75 76 84 85 86 rfl (Tr.reg0 (cad rfl rfl rfl rfl (by omega) (cm rfl (Ch.nil (Fin.fam_same (m + 1) ⟨hk_m, by omega⟩ ⟨⟨_, rfl, int_succ m⟩, ⟨_, rfl, bool_eq (by rw [any_snocX _ hx_m, hown, Bool.false_or])⟩, ke rfl, ke rfl, ke rfl, ke rfl, ke rfl, ke rfl, ke rfl, ke rfl, ke rfl, ke rfl, ke rfl, trivial⟩)))))))))))
 have he_m : m = ((entsF (normL (z1 ++ [z2])) (a % 6))).length := by have := ge_of_dec h5; omega
 subst he_m
 refine Tr.exit (Fin.then_exit (Fin.then_exit (Fin.block_here (Fin.go (wk9 6 9 11 13 15 19 74 75 76 rfl (Tr.seq (Tr.reg0 (cm rfl (co rfl (ok_not rfl (vl rfl)) (Ch.nil (Fin.go ?_)))))))))))
 refine Tr.cn rfl ?_ ?_ <;> intro h7 q7
 exfalso; rw [List.take_length, hlate] at h7; cases h7
 refine Tr.skip (Fin.block (Fin.go (Tr.reg0 (cad rfl rfl rfl rfl (by omega) (cm rfl (Ch.nil (Fin.fam_same (i + 1) ⟨hk_i, by omega⟩ ⟨⟨_, rfl, int_succ i⟩, ke rfl, ke rfl, ke rfl, ke rfl, ke rfl, ke rfl, ke rfl, trivial⟩)))))))
 have he_i : i = ((entsF z1 (a % 6))).length := by have := ge_of_dec h3; omega
 refine Tr.exit (Fin.then_exit (Fin.then_exit (Fin.block_here (Fin.go (Tr.seq (Tr.seq (Tr.reg0 (cm rfl (co rfl (ok_lenm rfl Tryz.underlying35 (vl rfl)) (cm rfl (Ch.nil (Fin.go (Tr.block (Tr.loopw [(6, _), (9, _), (11, _), (13, _), (106, _), (107, _)] (kk6 rfl) (fun o : Nat => [(108, int ((o : Nat) : Int))]) (fun o : Nat => o ≤ ((entsF (normL (z1 ++ [z2])) (a % 6))).length) (fun o : Nat => ((entsF (normL (z1 ++ [z2])) (a % 6))).length - o) 0 (Nat.zero_le _) ⟨ke rfl, trivial⟩ ?_))))))))))))))
 rintro o hle_o
 refine Tr.seq (Tr.reg0 (co rfl (ki rfl rfl rfl rfl) (Ch.nil (Fin.go (Tr.seq ?_)))))
 refine Tr.cn rfl ?_ ?_ <;> intro h8 q8
 have hk_o : o < ((entsF (normL (z1 ++ [z2])) (a % 6))).length := lt_of_dec h8
 obtain ⟨y, hx_o⟩ := at_ hk_o
 have hyi := ents_inX (List.mem_of_getElem? hx_o)
 refine Tr.skip (Fin.go (Tr.seq (Tr.block (Tr.seq (Tr.regT (tp rfl (ok_indexAddr rfl Tryz.underlying35 sz55 (vl rfl) (vl rfl) (by omega) (row_at hx_o)) (tp rfl (ok_loadA rfl agg55 sz55 (vl rfl) rfl rfl) ?_)))))))
 refine TO.alloc rfl rfl (by decide) rfl z55 zo55 (fun b5 => ?_)
 refine TO.store_all 0 rfl rfl rfl (vl rfl) (VL.le (vl rfl) (agg_cellsP _)) rfl sz55 rfl rfl (TO.freeze 0 23 rfl rfl (TO.nil (Fin.go (Tr.seq (Tr.seq (Tr.reg0 (co rfl (kfa rfl fo55_1 rfl rfl) (co rfl (kl1 rfl one53 rfl) (cm rfl (co rfl (ok_call rfl (w_meets) ⟨ke rfl, ke rfl, trivial⟩) (Ch.nil (Fin.go (wk9 6 9 11 13 23 106 107 108 115 rfl ?_)))))))))))))
 refine Tr.cn rfl ?_ ?_ <;> intro h9 q9
 refine Tr.exit (Fin.then_exit (Fin.block_here (Fin.go (Tr.reg0 (cad rfl rfl rfl rfl (by omega) (cm rfl (Ch.nil (Fin.fam_same (o + 1) ⟨hk_o, by omega⟩ ⟨⟨_, rfl, int_succ o⟩, ke rfl, ke rfl, ke rfl, ke rfl, ke rfl, ke rfl, trivial⟩))))))))
 have hback := back_list hz1.norm.adj hNy.adj (List.mem_of_getElem? hx_o) (far_meets hNy ⟨by omega, by omega⟩ hz2.check (List.mem_of_getElem? hx_o) (fun h hh => reH_post hh) h9)
 refine Tr.skip (Fin.go (Tr.seq (Tr.reg0 (cm rfl (Ch.nil (Fin.go (Tr.seq (Tr.seq (Tr.reg0 (cm rfl (co rfl (ok_lenm rfl Tryz.underlying35 (vl rfl)) (cm rfl (Ch.nil (Fin.go ?_))))))))))))))
 refine Tr.block (Tr.loopw [(6, _), (9, _), (11, _), (13, _), (23, _), (106, _), (107, _), (108, _), (116, _), (117, _)] (kk10 rfl) (fun p : Nat => [(118, int ((p : Nat) : Int)), (24, bool (((entsF z1 (a % 6)).take p).any (fun e => decide (listF z1 e.fnds = listF (normL (z1 ++ [z2])) y.fnds))))]) (fun p : Nat => p ≤ ((entsF z1 (a % 6))).length) (fun p : Nat => ((entsF z1 (a % 6))).length - p) 0 (Nat.zero_le _) ⟨ke rfl, ke rfl, trivial⟩ ?_)
 rintro p hle_p
 refine Tr.seq (Tr.reg0 (co rfl (ki rfl rfl rfl rfl) (Ch.nil (Fin.go (Tr.seq ?_)))))
 refine Tr.cn rfl ?_ ?_ <;> intro h10 q10
 have hk_p : p < ((entsF z1 (a % 6))).length := lt_of_dec h10
 obtain ⟨e, hx_p⟩ := at_ hk_p
 have hei := ents_inX (List.mem_of_getElem? hx_p)
 refine Tr.skip (Fin.go (Tr.seq (Tr.block (Tr.seq (Tr.regT (tp rfl (ok_indexAddr rfl Tryz.underlying35 sz55 (vl rfl) (vl rfl) (by omega) (row_at hx_p)) (tp rfl (ok_loadA rfl agg55 sz55 (vl rfl) rfl rfl) ?_)))))))
 refine TO.alloc rfl rfl (by decide) rfl z55 zo55 (fun b6 => ?_)
 refine TO.store_all 0 rfl rfl rfl (vl rfl) (VL.le (vl rfl) (agg_cellsP _)) rfl sz55 rfl rfl (TO.freeze 0 26 rfl rfl (TO.nil (Fin.go (wk13 6 9 11 13 23 24 26 106 107 108 116 117 118 rfl (Tr.reg1 mixed (by kernel_rfl) (cm rfl (cm rfl ?_)))))))
 refine Ch.cs 123 rfl ?_ ?_ <;> intro h11 q11
 have hown := h11
 iterate 9 refine cnf h11 rfl ?_
 refine co rfl (kpt rfl rfl h11 rfl) (cm rfl (Ch.nil (Fin.block (Fin.go (wk12 6 9 11 13 23 24 106 107 108 116 117 118 rfl (Tr.reg0 (cad rfl rfl rfl rfl (by omega) (cm rfl (Ch.nil (Fin.fam_same (p + 1) ⟨hk_p, by omega⟩ ⟨⟨_, rfl, int_succ p⟩, ⟨_, rfl, bool_eq (by rw [any_snocX _ hx_p, hown, Bool.true_or])⟩, ke rfl, ke rfl, ke rfl, ke rfl, ke rfl, ke rfl, ke rfl, ke rfl, ke rfl, ke rfl, trivial⟩))))))))))
 have hown := h11
 refine cym h11 rfl (cy h11 rfl (kfa rfl fo55_3 rfl rfl) (cy h11 rfl (kl1 rfl one22 rfl) ?_))
 refine cy h11 rfl (ok_call rfl (w_list39 (l := z1) (n := e.fnds) hei.1 (by omega)) ⟨ke rfl, ke rfl, trivial⟩) ?_
 refine cym h11 rfl (cy h11 rfl (kfa rfl fo55_3 rfl rfl) (cy h11 rfl (kl1 rfl one22 rfl) ?_))
 refine cy h11 rfl (ok_call rfl (w_list39 (l := (normL (z1 ++ [z2]))) (n := y.fnds) hyi.1 (by omega)) ⟨ke rfl, ke rfl, trivial⟩) ?_
 refine cy h11 rfl (ok_call rfl (w_same39) ⟨ke rfl, ke rfl, trivial⟩) (co rfl (kpf rfl rfl h11 rfl) (cm rfl (Ch.nil (Fin.block (Fin.go (wk12 6 9 11 13 23 24 106 107 108 116 117 118 rfl (Tr.reg0 (cad rfl rfl rfl rfl (by omega) (cm rfl (Ch.nil (Fin.fam_same (p + 1) ⟨hk_p, by omega⟩ ⟨⟨_, rfl, int_succ p⟩, ⟨_, rfl, bool_eq (by rw [any_snocX _ hx_p, hown, Bool.false_or])⟩, ke rfl, ke rfl, ke rfl, ke rfl, ke rfl, ke rfl, ke rfl, ke rfl, ke rfl, ke rfl, trivial⟩)))))))))))
 have he_p : p = ((entsF z1 (a % 6))).length := by have := ge_of_dec h10; omega
 subst he_p
 refine Tr.exit (Fin.then_exit (Fin.then_exit (Fin.block_here (Fin.go (Tr.seq (Tr.reg0 (cm rfl (co rfl (ok_not rfl (vl rfl)) (Ch.nil (Fin.go (wk8 6 9 11 13 106 107 108 136 rfl ?_)))))))))))
 refine Tr.cn rfl ?_ ?_ <;> intro h12 q12
 exfalso; rw [List.take_length, hback] at h12; cases h12
 refine Tr.skip (Fin.block (Fin.go (Tr.reg0 (cad rfl rfl rfl rfl (by omega) (cm rfl (Ch.nil (Fin.fam_same (o + 1) ⟨hk_o, by omega⟩ ⟨⟨_, rfl, int_succ o⟩, ke rfl, ke rfl, ke rfl, ke rfl, ke rfl, ke rfl, trivial⟩)))))))
 have he_o : o = ((entsF (normL (z1 ++ [z2])) (a % 6))).length := by have := ge_of_dec h8; omega
 refine Tr.exit (Fin.then_exit (Fin.then_exit (Fin.block_here (Fin.go (Tr.seq (Tr.reg0 (co rfl (ok_call rfl (w_awake39) trivial) (cm rfl (Ch.nil (Fin.go (Tr.ret (Fin.ret1 rfl (OutW.bse _ _) rfl ?_))))))))))))
 · exact Pr.le_refl _
set_option maxRecDepth 40000 in
theorem reopenOnly_lifted (os : Os) (started : os.Started) (H : Type) (enc : TypeId × Value → H) :
    ReturnsInHanded {} Tryz.checked os 7 .any (Rows.reopenOnlySpec.pre6 enc Tryz.prog Tryz.f7 Rows.reopenOnlyRow.domain false) (Rows.reopenOnlySpec.post enc Tryz.prog Tryz.f7 false true false false) := by
  refine returnsInHanded_of_change (C := Tryz.checked) own0 started (by kernel_rfl) Tryz.func7
    (ChangeSpec.witness6 (enc := enc) (C := Tryz.checked) false ⟨#[], #[.slice none 0 0, .int .u8 0], []⟩ 8 (by kernel_rfl) (by kernel_rfl) (by kernel_rfl) (by kernel_rfl)) ?_
  intro W base args ds gs before hval0 hW hcnd _
  have hval : ∀ (j : Nat) t v, Tryz.f7.params[j]? = some t → args[j]? = some v → Value.okWide Tryz.prog W .any base t v := hval0
  have hW' := hW
  obtain ⟨p, q, hA0, hV, hpq, hfz, hnd⟩ := hW
  have hA : DataW.TrodAll enc Tryz.prog W 0 (fun _ => true) true Tryz.f7.params.toList args.toList ds p := hA0
  have hA' := hA
  rw [Tryz.params7] at hA hval
  obtain ⟨v0, v1, d0, d1, p0, p1, rfl, rfl, hp, h0, h1⟩ := trodAll_two hA
  obtain ⟨rfl, rfl⟩ := trodVars_none hV
  obtain ⟨a0, hr0, e0⟩ := arg_one (opens_ints Tryz.underlying22 Tryz.underlying3 (by kernel_rfl)) h0 (by obtain ⟨_, _, _, rfl⟩ := okWide_slice Tryz.underlying22 (hval 0 22 v0 rfl rfl); rfl)
  obtain ⟨a1, hr1, e1⟩ := arg_one (opens_int Tryz.underlying5) h1 (by obtain ⟨_, rfl⟩ := okWide_int Tryz.underlying5 (hval 1 5 v1 rfl rfl); rfl)
  refine ((w_ReopenOnly (u8_in hr1)).2 noM W [v0, v1] (noM_bd W) ⟨e0, e1, trivial⟩).mono fun e W' ⟨v, he, hv, hb⟩ => ?_
  subst he
  obtain rfl : v = .bool true := hv
  exact ⟨_, rfl, law_post laidOut0 (by kernel_rfl) rfl Tryz.underlying4 rfl hA' (by rw [hpq]; simp) hW' rfl hb⟩
set_option maxRecDepth 40000 in
theorem reopenOnly_holds : Rows.ReopenOnlySaid :=
  OpenClaim.holds_of_wide 7 Tryz.f7 rfl rfl rfl rfl rfl rfl rfl ⟨rfl, rfl, rfl, rfl, rfl⟩ rfl rfl rfl rfl rfl (by kernel_rfl) Tryz.func7 (by kernel_rfl)
    (of_decide_eq_true (by kernel_rfl)) (by unfold Func.isWrapper; first | (rw [if_pos (by decide +kernel)]; kernel_rfl) | (rw [if_neg (by decide +kernel)]; exact ⟨rfl, rfl⟩))
    (fun os started H enc _ => reopenOnly_lifted os started H enc)
end Go.Proofs.YtgdlhajfajddiaaGreat
