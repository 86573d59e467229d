/-
  Part 5 of the texts that prove this claim, merged.
-/
import Derived.Test.YtflodcidhlmaaaaGreatChVP4
set_option linter.all false
namespace Go.Proofs.YtflodcidhlmaaaaGreat
open Go Go.RowKit Cp
set_option maxRecDepth 20000 in
set_option maxHeartbeats 1000000 in
theorem w_donenV {e e2 : Ept} {c b : Chg} {fk : Nat} {err : Int} (hf : e.fits) (hsm : e.small) (hce : eptB e = true) (hk : 1 ≤ c.kind ∧ c.kind ≤ 12) (hlean : leanB c = true) (hkp : kindsP[c.kind.toNat]? = some (fn (.func fk) [])) (hbk : b.idn.small) (hf2 : e2.fits) (hce2 : eptB e2 = false) (hm : ∀ (wb ob : Nat) (v : Value), FunD Tryz.prog fk [ptr wb 0] [resW wb ob c (back0 c), resO ob e (ints e.suites) (is v) (ints e.anchors) (ints e.hashes), oweRes 47 4 (e.ids.map rowId) v] (int 0) [resW wb ob c b, cellsRes true ob 35 (rowEp e2)]) : Fun Tryz.prog 64 [agg (rowEp e), agg (rowChg c)] (tup [agg (rowEp zeroEp), agg (rowChg zeroChg), int 18]) := by
 refine Fun.of Tryz.func64 rfl rfl (by exact Nat.le_of_ble_eq_true rfl) fun M0 w0 => ?_
 refine Tr.seq (Tr.regT (tp rfl (ok_box rfl (VL.le (vl rfl) (agg_cellsP _))) (tp rfl (ok_box rfl (VL.le (vl rfl) (agg_cellsP _))) ?_)))
 refine TO.alloc rfl rfl (by decide) rfl z35 zo35 (fun b1 => ?_)
 refine TO.alloc rfl rfl (by decide) rfl z49 zo49 (fun b2 => ?_)
 refine tm rfl (TO.nil (Fin.go (Tr.seq (Tr.seq (Tr.reg0 (co rfl (ok_loadA rfl agg35 sz35 (vl rfl) rfl rfl) (co rfl (ok_call rfl (w_ECheck hf) ⟨ke rfl, trivial⟩) (co rfl (ki rfl rfl rfl rfl) (Ch.nil (Fin.go ?_))))))))))
 refine Tr.cn rfl ?_ ?_ <;> intro h1 q1
 exfalso; rw [if_pos hce] at h1; exact absurd h1 (by decide)
 refine Tr.skip (Fin.go (Tr.seq (Tr.seq (Tr.reg0 (co rfl (kfa rfl fo49_1 rfl rfl) (co rfl (kl1 rfl one3 rfl) (co rfl (ki rfl rfl rfl rfl) (cm rfl ?_))))))))
 refine Ch.cs 18 rfl ?_ ?_ <;> intro h2 q2
 exfalso; have := q2; omega
 refine cy h2 rfl (kfa rfl fo49_1 rfl rfl) (cy h2 rfl (kl1 rfl one3 rfl) (cy h2 rfl (ki rfl rfl rfl rfl) (co rfl (kpf rfl rfl h2 rfl) (cm rfl ?_))))
 refine Ch.cs 23 rfl ?_ ?_ <;> intro h3 q3
 exfalso; have := q3; omega
 refine cy h3 rfl (ok_loadA rfl agg49 sz49 (vl rfl) rfl rfl) ?_
 refine cy h3 rfl (ok_call rfl (w_lean (c := c)) ⟨ke rfl, trivial⟩) ?_
 refine cy h3 rfl (ok_not rfl (vl rfl)) (co rfl (kpf rfl rfl h3 rfl) (Ch.nil (Fin.go (wk5 2 3 4 5 27 rfl ?_))))
 refine Tr.cn rfl ?_ ?_ <;> intro h4 q4
 rw [hlean] at h4; exact absurd h4 (by decide)
 refine Tr.skip (Fin.go (Tr.seq (Tr.regT (tp rfl (ok_loadA rfl agg35 sz35 (vl rfl) rfl rfl) ?_))))
 refine TO.callV rfl rfl (by decide) rfl (w_CopyEn hsm) ⟨ke rfl, trivial⟩ (fun v1 => ?_)
 refine TO.alloc rfl rfl (by decide) rfl z35 zo35 (fun b3 => ?_)
 refine TO.store_all 0 rfl rfl rfl (vl rfl) (VL.le (vl rfl) (agg_cellsP _)) rfl sz35 rfl rfl (TO.nil (Fin.go (Tr.seq (Tr.regT (tp rfl (ok_loadA rfl agg49 sz49 (vl rfl) rfl rfl) (tp rfl (kfa rfl fo49_0 rfl rfl) (tp rfl (kl1 rfl one3 rfl) (tp rfl (ok_build (rows := [(0, [_])]) rfl bl49 zo49 ⟨⟨rfl, (VL.le (vl rfl) (one_cellsP _))⟩, trivial⟩ rfl) (tp rfl (ok_build (rows := [(0, [_]), (1, _), (2, _)]) rfl bl147 zo147 ⟨⟨rfl, (VL.le (vl rfl) (one_cellsP _))⟩, ⟨⟨rfl, (VL.le (vl rfl) (agg_cellsP _))⟩, ⟨⟨rfl, (VL.le (vl rfl) (agg_cellsP _))⟩, trivial⟩⟩⟩ rfl) ?_)))))))))
 refine TO.boxm rfl rfl (by decide) rfl (VL.le (vl rfl) (agg_cellsP _)) (fun b4 => ?_)
 refine tm rfl (TO.nil (Fin.go (wk5 3 4 5 7 8 rfl (Tr.seq (Tr.seq (Tr.leC 0 (ptr b3 0 :: rowWt c (back0 c)) rfl ⟨Pr.le_refl _, Pr.le_refl _, Pr.le_refl _, Pr.le_refl _, Pr.le_refl _, Pr.le_refl _, Pr.le_refl _, Pr.le_refl _, Pr.le_refl _, Pr.le_refl _, Pr.le_refl _, Pr.le_refl _, Pr.le_refl _, Pr.le_refl _, Pr.le_refl _, Pr.le_refl _, nil_slice 15, trivial⟩ (Tr.regOne mixed 5 (by kernel_rfl) (ChOne.op rfl rfl (by decide) (ok_call rfl (w_kinds) trivial) (ChOne.op rfl rfl (by decide) (kfa rfl fo49_1 rfl rfl) (ChOne.op rfl rfl (by decide) (kl1 rfl one3 rfl) (ChOne.op rfl rfl (by decide) (ok_index1 rfl Tryz.underlying149 one148 sz148 (vl rfl) (vl rfl) (by omega) (by omega) hkp) (ChOne.op rfl rfl (by decide) (ok_move rfl (vl rfl)) ?_))))))))))))
 refine ChOne.turn _ rfl (by decide) (turn_callv _ rfl rfl (vl rfl) (hm _ _ _) ⟨ke rfl, trivial⟩ ((perm_at (j := 0) rfl).trans (List.Perm.cons _ ((perm_at (j := 0) rfl).trans (List.Perm.cons _ ((perm_at (j := 0) rfl).trans (List.Perm.cons _ (List.Perm.refl _)))))))) ?_
 refine cm rfl (Ch.nil (Fin.go (Tr.seq (Tr.reg0 (cm rfl (co rfl (ki rfl rfl rfl rfl) (Ch.nil (Fin.go (wk6 4 5 7 8 9 45 rfl ?_)))))))))
 refine Tr.cn rfl ?_ ?_ <;> intro h5 q5
 exact absurd h5 (by decide)
 refine Tr.skip (Fin.go (Tr.seq (Tr.seq (Tr.reg0 (co rfl (ok_rd 1 rfl (rd_loadA rfl agg35 sz35 (vl rfl) rfl rfl)) ?_)))))
 refine co rfl (ok_call rfl (w_ECheck (e := e2) hf2) ⟨ke rfl, trivial⟩) ?_
 refine co rfl (ki rfl rfl rfl rfl) (Ch.nil (Fin.go ?_))
 refine Tr.cn rfl ?_ ?_ <;> intro h6 q6
 refine Tr.seq (Tr.regT (tp rfl (ok_build (rows := []) rfl bl35 zo35 trivial rfl) (tp rfl (ok_build (rows := []) rfl bl49 zo49 trivial rfl) (TO.store_all 3 rfl rfl rfl (vl rfl) (VL.le (vl rfl) (agg_cellsP _)) rfl sz35 rfl rfl (TO.store_all 2 rfl rfl rfl (vl rfl) (VL.le (vl rfl) (agg_cellsP _)) rfl sz49 rfl rfl (tm rfl (TO.nil (Fin.go (Tr.ret (Fin.then_ret (Fin.retX3 rfl (RVal.cell 3 rfl rfl agg35 sz35 rfl (Pr.le_refl _)) (RVal.cell 2 rfl rfl agg49 sz49 rfl (Pr.le_refl _)) (RVal.tmp rfl (Pr.le_refl _)) ?_)))))))))))
 refine tup_le ⟨?_, ?_, ?_, trivial⟩
 · exact agg_le ⟨Pr.le_refl _, Pr.le_refl _, Pr.le_refl _, nil_slice 1, Pr.le_refl _, nil_slice 4, nil_slice 1, nil_slice 1, Pr.le_refl _, trivial⟩
 · exact agg_le ⟨Pr.le_refl _, Pr.le_refl _, Pr.le_refl _, Pr.le_refl _, Pr.le_refl _, Pr.le_refl _, Pr.le_refl _, nil_slice 15, trivial⟩
 · exact Pr.le_refl _
 exfalso; rw [if_neg (by rw [hce2]; decide)] at h6; exact absurd h6 (by decide)
set_option maxRecDepth 20000 in
set_option maxHeartbeats 1000000 in
theorem w_donesV {e e2 : Ept} {c b : Chg} {fk : Nat} {err : Int} (hf : e.fits) (hsm : e.small) (hce : eptB e = true) (hk : 1 ≤ c.kind ∧ c.kind ≤ 12) (hlean : leanB c = true) (hkp : kindsP[c.kind.toNat]? = some (fn (.func fk) [])) (hbk : b.idn.small) (hf2 : e2.fits) (hce2 : eptB e2 = false) (hm : ∀ (wb ob : Nat) (v : Value), FunD Tryz.prog fk [ptr wb 0] [resW wb ob c (back0 c), resO ob e (is v) (idns e.ids) (ints e.anchors) (ints e.hashes), oweRes 3 1 (e.suites.map fun n => [int n]) v] (int 0) [resW wb ob c b, cellsRes true ob 35 (rowEp e2)]) : Fun Tryz.prog 64 [agg (rowEp e), agg (rowChg c)] (tup [agg (rowEp zeroEp), agg (rowChg zeroChg), int 18]) := by
 refine Fun.of Tryz.func64 rfl rfl (by exact Nat.le_of_ble_eq_true rfl) fun M0 w0 => ?_
 refine Tr.seq (Tr.regT (tp rfl (ok_box rfl (VL.le (vl rfl) (agg_cellsP _))) (tp rfl (ok_box rfl (VL.le (vl rfl) (agg_cellsP _))) ?_)))
 refine TO.alloc rfl rfl (by decide) rfl z35 zo35 (fun b1 => ?_)
 refine TO.alloc rfl rfl (by decide) rfl z49 zo49 (fun b2 => ?_)
 refine tm rfl (TO.nil (Fin.go (Tr.seq (Tr.seq (Tr.reg0 (co rfl (ok_loadA rfl agg35 sz35 (vl rfl) rfl rfl) (co rfl (ok_call rfl (w_ECheck hf) ⟨ke rfl, trivial⟩) (co rfl (ki rfl rfl rfl rfl) (Ch.nil (Fin.go ?_))))))))))
 refine Tr.cn rfl ?_ ?_ <;> intro h1 q1
 exfalso; rw [if_pos hce] at h1; exact absurd h1 (by decide)
 refine Tr.skip (Fin.go (Tr.seq (Tr.seq (Tr.reg0 (co rfl (kfa rfl fo49_1 rfl rfl) (co rfl (kl1 rfl one3 rfl) (co rfl (ki rfl rfl rfl rfl) (cm rfl ?_))))))))
 refine Ch.cs 18 rfl ?_ ?_ <;> intro h2 q2
 exfalso; have := q2; omega
 refine cy h2 rfl (kfa rfl fo49_1 rfl rfl) (cy h2 rfl (kl1 rfl one3 rfl) (cy h2 rfl (ki rfl rfl rfl rfl) (co rfl (kpf rfl rfl h2 rfl) (cm rfl ?_))))
 refine Ch.cs 23 rfl ?_ ?_ <;> intro h3 q3
 exfalso; have := q3; omega
 refine cy h3 rfl (ok_loadA rfl agg49 sz49 (vl rfl) rfl rfl) ?_
 refine cy h3 rfl (ok_call rfl (w_lean (c := c)) ⟨ke rfl, trivial⟩) ?_
 refine cy h3 rfl (ok_not rfl (vl rfl)) (co rfl (kpf rfl rfl h3 rfl) (Ch.nil (Fin.go (wk5 2 3 4 5 27 rfl ?_))))
 refine Tr.cn rfl ?_ ?_ <;> intro h4 q4
 rw [hlean] at h4; exact absurd h4 (by decide)
 refine Tr.skip (Fin.go (Tr.seq (Tr.regT (tp rfl (ok_loadA rfl agg35 sz35 (vl rfl) rfl rfl) ?_))))
 refine TO.callV rfl rfl (by decide) rfl (w_CopyEs hsm) ⟨ke rfl, trivial⟩ (fun v1 => ?_)
 refine TO.alloc rfl rfl (by decide) rfl z35 zo35 (fun b3 => ?_)
 refine TO.store_all 0 rfl rfl rfl (vl rfl) (VL.le (vl rfl) (agg_cellsP _)) rfl sz35 rfl rfl (TO.nil (Fin.go (Tr.seq (Tr.regT (tp rfl (ok_loadA rfl agg49 sz49 (vl rfl) rfl rfl) (tp rfl (kfa rfl fo49_0 rfl rfl) (tp rfl (kl1 rfl one3 rfl) (tp rfl (ok_build (rows := [(0, [_])]) rfl bl49 zo49 ⟨⟨rfl, (VL.le (vl rfl) (one_cellsP _))⟩, trivial⟩ rfl) (tp rfl (ok_build (rows := [(0, [_]), (1, _), (2, _)]) rfl bl147 zo147 ⟨⟨rfl, (VL.le (vl rfl) (one_cellsP _))⟩, ⟨⟨rfl, (VL.le (vl rfl) (agg_cellsP _))⟩, ⟨⟨rfl, (VL.le (vl rfl) (agg_cellsP _))⟩, trivial⟩⟩⟩ rfl) ?_)))))))))
 refine TO.boxm rfl rfl (by decide) rfl (VL.le (vl rfl) (agg_cellsP _)) (fun b4 => ?_)
 refine tm rfl (TO.nil (Fin.go (wk5 3 4 5 7 8 rfl (Tr.seq (Tr.seq (Tr.leC 0 (ptr b3 0 :: rowWt c (back0 c)) rfl ⟨Pr.le_refl _, Pr.le_refl _, Pr.le_refl _, Pr.le_refl _, Pr.le_refl _, Pr.le_refl _, Pr.le_refl _, Pr.le_refl _, Pr.le_refl _, Pr.le_refl _, Pr.le_refl _, Pr.le_refl _, Pr.le_refl _, Pr.le_refl _, Pr.le_refl _, Pr.le_refl _, nil_slice 15, trivial⟩ (Tr.regOne mixed 5 (by kernel_rfl) (ChOne.op rfl rfl (by decide) (ok_call rfl (w_kinds) trivial) (ChOne.op rfl rfl (by decide) (kfa rfl fo49_1 rfl rfl) (ChOne.op rfl rfl (by decide) (kl1 rfl one3 rfl) (ChOne.op rfl rfl (by decide) (ok_index1 rfl Tryz.underlying149 one148 sz148 (vl rfl) (vl rfl) (by omega) (by omega) hkp) (ChOne.op rfl rfl (by decide) (ok_move rfl (vl rfl)) ?_))))))))))))
 refine ChOne.turn _ rfl (by decide) (turn_callv _ rfl rfl (vl rfl) (hm _ _ _) ⟨ke rfl, trivial⟩ ((perm_at (j := 0) rfl).trans (List.Perm.cons _ ((perm_at (j := 0) rfl).trans (List.Perm.cons _ ((perm_at (j := 0) rfl).trans (List.Perm.cons _ (List.Perm.refl _)))))))) ?_
 refine cm rfl (Ch.nil (Fin.go (Tr.seq (Tr.reg0 (cm rfl (co rfl (ki rfl rfl rfl rfl) (Ch.nil (Fin.go (wk6 4 5 7 8 9 45 rfl ?_)))))))))
 refine Tr.cn rfl ?_ ?_ <;> intro h5 q5
 exact absurd h5 (by decide)
 refine Tr.skip (Fin.go (Tr.seq (Tr.seq (Tr.reg0 (co rfl (ok_rd 1 rfl (rd_loadA rfl agg35 sz35 (vl rfl) rfl rfl)) ?_)))))
 refine co rfl (ok_call rfl (w_ECheck (e := e2) hf2) ⟨ke rfl, trivial⟩) ?_
 refine co rfl (ki rfl rfl rfl rfl) (Ch.nil (Fin.go ?_))
 refine Tr.cn rfl ?_ ?_ <;> intro h6 q6
 refine Tr.seq (Tr.regT (tp rfl (ok_build (rows := []) rfl bl35 zo35 trivial rfl) (tp rfl (ok_build (rows := []) rfl bl49 zo49 trivial rfl) (TO.store_all 3 rfl rfl rfl (vl rfl) (VL.le (vl rfl) (agg_cellsP _)) rfl sz35 rfl rfl (TO.store_all 2 rfl rfl rfl (vl rfl) (VL.le (vl rfl) (agg_cellsP _)) rfl sz49 rfl rfl (tm rfl (TO.nil (Fin.go (Tr.ret (Fin.then_ret (Fin.retX3 rfl (RVal.cell 3 rfl rfl agg35 sz35 rfl (Pr.le_refl _)) (RVal.cell 2 rfl rfl agg49 sz49 rfl (Pr.le_refl _)) (RVal.tmp rfl (Pr.le_refl _)) ?_)))))))))))
 refine tup_le ⟨?_, ?_, ?_, trivial⟩
 · exact agg_le ⟨Pr.le_refl _, Pr.le_refl _, Pr.le_refl _, nil_slice 1, Pr.le_refl _, nil_slice 4, nil_slice 1, nil_slice 1, Pr.le_refl _, trivial⟩
 · exact agg_le ⟨Pr.le_refl _, Pr.le_refl _, Pr.le_refl _, Pr.le_refl _, Pr.le_refl _, Pr.le_refl _, Pr.le_refl _, nil_slice 15, trivial⟩
 · exact Pr.le_refl _
 exfalso; rw [if_neg (by rw [hce2]; decide)] at h6; exact absurd h6 (by decide)
set_option maxRecDepth 20000 in
set_option maxHeartbeats 1000000 in
theorem w_doneaE {e e2 : Ept} {c b : Chg} {fk : Nat} {err : Int} (hf : e.fits) (hsm : e.small) (hce : eptB e = true) (hk : 1 ≤ c.kind ∧ c.kind ≤ 12) (hlean : leanB c = true) (hkp : kindsP[c.kind.toNat]? = some (fn (.func fk) [])) (he : err ≠ 0) (hm : ∀ (wb ob : Nat) (v : Value), FunD Tryz.prog fk [ptr wb 0] [resW wb ob c (back0 c), resO ob e (ints e.suites) (idns e.ids) (is v) (ints e.hashes), oweRes 3 1 (e.anchors.map fun n => [int n]) v] (int err) []) : Fun Tryz.prog 64 [agg (rowEp e), agg (rowChg c)] (tup [agg (rowEp zeroEp), agg (rowChg zeroChg), int err]) := by
 refine Fun.of Tryz.func64 rfl rfl (by exact Nat.le_of_ble_eq_true rfl) fun M0 w0 => ?_
 refine Tr.seq (Tr.regT (tp rfl (ok_box rfl (VL.le (vl rfl) (agg_cellsP _))) (tp rfl (ok_box rfl (VL.le (vl rfl) (agg_cellsP _))) ?_)))
 refine TO.alloc rfl rfl (by decide) rfl z35 zo35 (fun b1 => ?_)
 refine TO.alloc rfl rfl (by decide) rfl z49 zo49 (fun b2 => ?_)
 refine tm rfl (TO.nil (Fin.go (Tr.seq (Tr.seq (Tr.reg0 (co rfl (ok_loadA rfl agg35 sz35 (vl rfl) rfl rfl) (co rfl (ok_call rfl (w_ECheck hf) ⟨ke rfl, trivial⟩) (co rfl (ki rfl rfl rfl rfl) (Ch.nil (Fin.go ?_))))))))))
 refine Tr.cn rfl ?_ ?_ <;> intro h1 q1
 exfalso; rw [if_pos hce] at h1; exact absurd h1 (by decide)
 refine Tr.skip (Fin.go (Tr.seq (Tr.seq (Tr.reg0 (co rfl (kfa rfl fo49_1 rfl rfl) (co rfl (kl1 rfl one3 rfl) (co rfl (ki rfl rfl rfl rfl) (cm rfl ?_))))))))
 refine Ch.cs 18 rfl ?_ ?_ <;> intro h2 q2
 exfalso; have := q2; omega
 refine cy h2 rfl (kfa rfl fo49_1 rfl rfl) (cy h2 rfl (kl1 rfl one3 rfl) (cy h2 rfl (ki rfl rfl rfl rfl) (co rfl (kpf rfl rfl h2 rfl) (cm rfl ?_))))
 refine Ch.cs 23 rfl ?_ ?_ <;> intro h3 q3
 exfalso; have := q3; omega
 refine cy h3 rfl (ok_loadA rfl agg49 sz49 (vl rfl) rfl rfl) ?_
 refine cy h3 rfl (ok_call rfl (w_lean (c := c)) ⟨ke rfl, trivial⟩) ?_
 refine cy h3 rfl (ok_not rfl (vl rfl)) (co rfl (kpf rfl rfl h3 rfl) (Ch.nil (Fin.go (wk5 2 3 4 5 27 rfl ?_))))
 refine Tr.cn rfl ?_ ?_ <;> intro h4 q4
 rw [hlean] at h4; exact absurd h4 (by decide)
 refine Tr.skip (Fin.go (Tr.seq (Tr.regT (tp rfl (ok_loadA rfl agg35 sz35 (vl rfl) rfl rfl) ?_))))
 refine TO.callV rfl rfl (by decide) rfl (w_CopyEa hsm) ⟨ke rfl, trivial⟩ (fun v1 => ?_)
 refine TO.alloc rfl rfl (by decide) rfl z35 zo35 (fun b3 => ?_)
 refine TO.store_all 0 rfl rfl rfl (vl rfl) (VL.le (vl rfl) (agg_cellsP _)) rfl sz35 rfl rfl (TO.nil (Fin.go (Tr.seq (Tr.regT (tp rfl (ok_loadA rfl agg49 sz49 (vl rfl) rfl rfl) (tp rfl (kfa rfl fo49_0 rfl rfl) (tp rfl (kl1 rfl one3 rfl) (tp rfl (ok_build (rows := [(0, [_])]) rfl bl49 zo49 ⟨⟨rfl, (VL.le (vl rfl) (one_cellsP _))⟩, trivial⟩ rfl) (tp rfl (ok_build (rows := [(0, [_]), (1, _), (2, _)]) rfl bl147 zo147 ⟨⟨rfl, (VL.le (vl rfl) (one_cellsP _))⟩, ⟨⟨rfl, (VL.le (vl rfl) (agg_cellsP _))⟩, ⟨⟨rfl, (VL.le (vl rfl) (agg_cellsP _))⟩, trivial⟩⟩⟩ rfl) ?_)))))))))
 refine TO.boxm rfl rfl (by decide) rfl (VL.le (vl rfl) (agg_cellsP _)) (fun b4 => ?_)
 refine tm rfl (TO.nil (Fin.go (wk5 3 4 5 7 8 rfl (Tr.seq (Tr.seq (Tr.leC 0 (ptr b3 0 :: rowWt c (back0 c)) rfl ⟨Pr.le_refl _, Pr.le_refl _, Pr.le_refl _, Pr.le_refl _, Pr.le_refl _, Pr.le_refl _, Pr.le_refl _, Pr.le_refl _, Pr.le_refl _, Pr.le_refl _, Pr.le_refl _, Pr.le_refl _, Pr.le_refl _, Pr.le_refl _, Pr.le_refl _, Pr.le_refl _, nil_slice 15, trivial⟩ (Tr.regOne mixed 5 (by kernel_rfl) (ChOne.op rfl rfl (by decide) (ok_call rfl (w_kinds) trivial) (ChOne.op rfl rfl (by decide) (kfa rfl fo49_1 rfl rfl) (ChOne.op rfl rfl (by decide) (kl1 rfl one3 rfl) (ChOne.op rfl rfl (by decide) (ok_index1 rfl Tryz.underlying149 one148 sz148 (vl rfl) (vl rfl) (by omega) (by omega) hkp) (ChOne.op rfl rfl (by decide) (ok_move rfl (vl rfl)) ?_))))))))))))
 refine ChOne.turn _ rfl (by decide) (turn_callv _ rfl rfl (vl rfl) (hm _ _ _) ⟨ke rfl, trivial⟩ ((perm_at (j := 0) rfl).trans (List.Perm.cons _ ((perm_at (j := 0) rfl).trans (List.Perm.cons _ ((perm_at (j := 0) rfl).trans (List.Perm.cons _ (List.Perm.refl _)))))))) ?_
 refine cm rfl (Ch.nil (Fin.go (Tr.seq (Tr.reg0 (cm rfl (co rfl (ki rfl rfl rfl rfl) (Ch.nil (Fin.go (wk6 4 5 7 8 9 45 rfl ?_)))))))))
 refine Tr.cn rfl ?_ ?_ <;> intro h5 q5
 refine Tr.seq (Tr.regT (tp rfl (ok_build (rows := []) rfl bl35 zo35 trivial rfl) (tp rfl (ok_build (rows := []) rfl bl49 zo49 trivial rfl) (tm rfl (TO.store_all 1 rfl rfl rfl (vl rfl) (VL.le (vl rfl) (agg_cellsP _)) rfl sz35 rfl rfl (TO.store_all 0 rfl rfl rfl (vl rfl) (VL.le (vl rfl) (agg_cellsP _)) rfl sz49 rfl rfl (tm rfl (TO.nil (Fin.go (Tr.ret (Fin.then_ret (Fin.retX3 rfl (RVal.cell 1 rfl rfl agg35 sz35 rfl (Pr.le_refl _)) (RVal.cell 0 rfl rfl agg49 sz49 rfl (Pr.le_refl _)) (RVal.tmp rfl (Pr.le_refl _)) ?_))))))))))))
 refine tup_le ⟨?_, ?_, ?_, trivial⟩
 · exact agg_le ⟨Pr.le_refl _, Pr.le_refl _, Pr.le_refl _, nil_slice 1, Pr.le_refl _, nil_slice 4, nil_slice 1, nil_slice 1, Pr.le_refl _, trivial⟩
 · exact agg_le ⟨Pr.le_refl _, Pr.le_refl _, Pr.le_refl _, Pr.le_refl _, Pr.le_refl _, Pr.le_refl _, Pr.le_refl _, nil_slice 15, trivial⟩
 · exact Pr.le_refl _
 exfalso; have := q5; omega
set_option maxRecDepth 20000 in
set_option maxHeartbeats 1000000 in
theorem w_doneaY {e e2 : Ept} {c b : Chg} {fk : Nat} {err : Int} (hf : e.fits) (hsm : e.small) (hce : eptB e = true) (hk : 1 ≤ c.kind ∧ c.kind ≤ 12) (hlean : leanB c = true) (hkp : kindsP[c.kind.toNat]? = some (fn (.func fk) [])) (hbk : b.idn.small) (hf2 : e2.fits) (hce2 : eptB e2 = true) (hm : ∀ (wb ob : Nat) (v : Value), FunD Tryz.prog fk [ptr wb 0] [resW wb ob c (back0 c), resO ob e (ints e.suites) (idns e.ids) (is v) (ints e.hashes), oweRes 3 1 (e.anchors.map fun n => [int n]) v] (int 0) [resW wb ob c b, cellsRes true ob 35 (rowEp e2)]) : Fun Tryz.prog 64 [agg (rowEp e), agg (rowChg c)] (tup [agg (rowEp e2), agg (rowChg b), int 0]) := by
 refine Fun.of Tryz.func64 rfl rfl (by exact Nat.le_of_ble_eq_true rfl) fun M0 w0 => ?_
 refine Tr.seq (Tr.regT (tp rfl (ok_box rfl (VL.le (vl rfl) (agg_cellsP _))) (tp rfl (ok_box rfl (VL.le (vl rfl) (agg_cellsP _))) ?_)))
 refine TO.alloc rfl rfl (by decide) rfl z35 zo35 (fun b1 => ?_)
 refine TO.alloc rfl rfl (by decide) rfl z49 zo49 (fun b2 => ?_)
 refine tm rfl (TO.nil (Fin.go (Tr.seq (Tr.seq (Tr.reg0 (co rfl (ok_loadA rfl agg35 sz35 (vl rfl) rfl rfl) (co rfl (ok_call rfl (w_ECheck hf) ⟨ke rfl, trivial⟩) (co rfl (ki rfl rfl rfl rfl) (Ch.nil (Fin.go ?_))))))))))
 refine Tr.cn rfl ?_ ?_ <;> intro h1 q1
 exfalso; rw [if_pos hce] at h1; exact absurd h1 (by decide)
 refine Tr.skip (Fin.go (Tr.seq (Tr.seq (Tr.reg0 (co rfl (kfa rfl fo49_1 rfl rfl) (co rfl (kl1 rfl one3 rfl) (co rfl (ki rfl rfl rfl rfl) (cm rfl ?_))))))))
 refine Ch.cs 18 rfl ?_ ?_ <;> intro h2 q2
 exfalso; have := q2; omega
 refine cy h2 rfl (kfa rfl fo49_1 rfl rfl) (cy h2 rfl (kl1 rfl one3 rfl) (cy h2 rfl (ki rfl rfl rfl rfl) (co rfl (kpf rfl rfl h2 rfl) (cm rfl ?_))))
 refine Ch.cs 23 rfl ?_ ?_ <;> intro h3 q3
 exfalso; have := q3; omega
 refine cy h3 rfl (ok_loadA rfl agg49 sz49 (vl rfl) rfl rfl) ?_
 refine cy h3 rfl (ok_call rfl (w_lean (c := c)) ⟨ke rfl, trivial⟩) ?_
 refine cy h3 rfl (ok_not rfl (vl rfl)) (co rfl (kpf rfl rfl h3 rfl) (Ch.nil (Fin.go (wk5 2 3 4 5 27 rfl ?_))))
 refine Tr.cn rfl ?_ ?_ <;> intro h4 q4
 rw [hlean] at h4; exact absurd h4 (by decide)
 refine Tr.skip (Fin.go (Tr.seq (Tr.regT (tp rfl (ok_loadA rfl agg35 sz35 (vl rfl) rfl rfl) ?_))))
 refine TO.callV rfl rfl (by decide) rfl (w_CopyEa hsm) ⟨ke rfl, trivial⟩ (fun v1 => ?_)
 refine TO.alloc rfl rfl (by decide) rfl z35 zo35 (fun b3 => ?_)
 refine TO.store_all 0 rfl rfl rfl (vl rfl) (VL.le (vl rfl) (agg_cellsP _)) rfl sz35 rfl rfl (TO.nil (Fin.go (Tr.seq (Tr.regT (tp rfl (ok_loadA rfl agg49 sz49 (vl rfl) rfl rfl) (tp rfl (kfa rfl fo49_0 rfl rfl) (tp rfl (kl1 rfl one3 rfl) (tp rfl (ok_build (rows := [(0, [_])]) rfl bl49 zo49 ⟨⟨rfl, (VL.le (vl rfl) (one_cellsP _))⟩, trivial⟩ rfl) (tp rfl (ok_build (rows := [(0, [_]), (1, _), (2, _)]) rfl bl147 zo147 ⟨⟨rfl, (VL.le (vl rfl) (one_cellsP _))⟩, ⟨⟨rfl, (VL.le (vl rfl) (agg_cellsP _))⟩, ⟨⟨rfl, (VL.le (vl rfl) (agg_cellsP _))⟩, trivial⟩⟩⟩ rfl) ?_)))))))))
 refine TO.boxm rfl rfl (by decide) rfl (VL.le (vl rfl) (agg_cellsP _)) (fun b4 => ?_)
 refine tm rfl (TO.nil (Fin.go (wk5 3 4 5 7 8 rfl (Tr.seq (Tr.seq (Tr.leC 0 (ptr b3 0 :: rowWt c (back0 c)) rfl ⟨Pr.le_refl _, Pr.le_refl _, Pr.le_refl _, Pr.le_refl _, Pr.le_refl _, Pr.le_refl _, Pr.le_refl _, Pr.le_refl _, Pr.le_refl _, Pr.le_refl _, Pr.le_refl _, Pr.le_refl _, Pr.le_refl _, Pr.le_refl _, Pr.le_refl _, Pr.le_refl _, nil_slice 15, trivial⟩ (Tr.regOne mixed 5 (by kernel_rfl) (ChOne.op rfl rfl (by decide) (ok_call rfl (w_kinds) trivial) (ChOne.op rfl rfl (by decide) (kfa rfl fo49_1 rfl rfl) (ChOne.op rfl rfl (by decide) (kl1 rfl one3 rfl) (ChOne.op rfl rfl (by decide) (ok_index1 rfl Tryz.underlying149 one148 sz148 (vl rfl) (vl rfl) (by omega) (by omega) hkp) (ChOne.op rfl rfl (by decide) (ok_move rfl (vl rfl)) ?_))))))))))))
 refine ChOne.turn _ rfl (by decide) (turn_callv _ rfl rfl (vl rfl) (hm _ _ _) ⟨ke rfl, trivial⟩ ((perm_at (j := 0) rfl).trans (List.Perm.cons _ ((perm_at (j := 0) rfl).trans (List.Perm.cons _ ((perm_at (j := 0) rfl).trans (List.Perm.cons _ (List.Perm.refl _)))))))) ?_
 refine cm rfl (Ch.nil (Fin.go (Tr.seq (Tr.reg0 (cm rfl (co rfl (ki rfl rfl rfl rfl) (Ch.nil (Fin.go (wk6 4 5 7 8 9 45 rfl ?_)))))))))
 refine Tr.cn rfl ?_ ?_ <;> intro h5 q5
 exact absurd h5 (by decide)
 refine Tr.skip (Fin.go (Tr.seq (Tr.seq (Tr.reg0 (co rfl (ok_rd 1 rfl (rd_loadA rfl agg35 sz35 (vl rfl) rfl rfl)) ?_)))))
 refine co rfl (ok_call rfl (w_ECheck (e := e2) hf2) ⟨ke rfl, trivial⟩) ?_
 refine co rfl (ki rfl rfl rfl rfl) (Ch.nil (Fin.go ?_))
 refine Tr.cn rfl ?_ ?_ <;> intro h6 q6
 exfalso; rw [if_pos hce2] at h6; exact absurd h6 (by decide)
 refine Tr.skip (Fin.go (Tr.seq (Tr.regX mixed [some (0, 1, false, 0), none, none, none, some (0, 0, false, 0), none, some (0, 3, true, 0), some (0, 2, true, 0), none] (by kernel_rfl) (xrd 1 rfl rfl (rd_loadA rfl agg35 sz35 (vl rfl) rfl rfl) (xm rfl (xo rfl (fun _ => okp_nilCheck rfl (vl rfl)) (xo rfl (fun _ => okp_fieldAddr rfl fo147_2 (vl rfl)) (xrd 0 rfl rfl (rd_loadA rfl agg49 sz49 (vl rfl) rfl rfl) ?_))))))))
 refine xo rfl (fun _ => ok_call rfl (w_CopyC (c := b) hbk) ⟨ke rfl, trivial⟩) ?_
 refine Cx.ef0 3 rfl rfl (ef_store rfl rfl (vl rfl) (VL.le (vl rfl) (agg_cellsP _)) sz35 rfl (by exact Nat.le_of_ble_eq_true rfl) rfl) (Cx.ef0 2 rfl rfl (ef_store rfl rfl (vl rfl) (VL.le (vl rfl) (agg_cellsP _)) sz49 rfl (by exact Nat.le_of_ble_eq_true rfl) rfl) (xm rfl ?_))
 refine Cx.nil ⟨rfl, ?_⟩
 refine FinX.done (AllC.cons (AllC.cons (AllC.cons (AllC.cons (AllC.map _))))) (Fin.go (wk3 4 5 6 rfl (Tr.ret (Fin.retX3 rfl (RVal.cell 3 rfl rfl agg35 sz35 rfl (Pr.le_refl _)) (RVal.cell 2 rfl rfl agg49 sz49 rfl (Pr.le_refl _)) (RVal.tmp rfl (Pr.le_refl _)) ?_))))
 refine tup_le ⟨?_, ?_, ?_, trivial⟩
 · exact Pr.le_refl _
 · exact Pr.le_refl _
 · exact Pr.le_refl _
set_option maxRecDepth 20000 in
set_option maxHeartbeats 1000000 in
theorem w_doneaV {e e2 : Ept} {c b : Chg} {fk : Nat} {err : Int} (hf : e.fits) (hsm : e.small) (hce : eptB e = true) (hk : 1 ≤ c.kind ∧ c.kind ≤ 12) (hlean : leanB c = true) (hkp : kindsP[c.kind.toNat]? = some (fn (.func fk) [])) (hbk : b.idn.small) (hf2 : e2.fits) (hce2 : eptB e2 = false) (hm : ∀ (wb ob : Nat) (v : Value), FunD Tryz.prog fk [ptr wb 0] [resW wb ob c (back0 c), resO ob e (ints e.suites) (idns e.ids) (is v) (ints e.hashes), oweRes 3 1 (e.anchors.map fun n => [int n]) v] (int 0) [resW wb ob c b, cellsRes true ob 35 (rowEp e2)]) : Fun Tryz.prog 64 [agg (rowEp e), agg (rowChg c)] (tup [agg (rowEp zeroEp), agg (rowChg zeroChg), int 18]) := by
 refine Fun.of Tryz.func64 rfl rfl (by exact Nat.le_of_ble_eq_true rfl) fun M0 w0 => ?_
 refine Tr.seq (Tr.regT (tp rfl (ok_box rfl (VL.le (vl rfl) (agg_cellsP _))) (tp rfl (ok_box rfl (VL.le (vl rfl) (agg_cellsP _))) ?_)))
 refine TO.alloc rfl rfl (by decide) rfl z35 zo35 (fun b1 => ?_)
 refine TO.alloc rfl rfl (by decide) rfl z49 zo49 (fun b2 => ?_)
 refine tm rfl (TO.nil (Fin.go (Tr.seq (Tr.seq (Tr.reg0 (co rfl (ok_loadA rfl agg35 sz35 (vl rfl) rfl rfl) (co rfl (ok_call rfl (w_ECheck hf) ⟨ke rfl, trivial⟩) (co rfl (ki rfl rfl rfl rfl) (Ch.nil (Fin.go ?_))))))))))
 refine Tr.cn rfl ?_ ?_ <;> intro h1 q1
 exfalso; rw [if_pos hce] at h1; exact absurd h1 (by decide)
 refine Tr.skip (Fin.go (Tr.seq (Tr.seq (Tr.reg0 (co rfl (kfa rfl fo49_1 rfl rfl) (co rfl (kl1 rfl one3 rfl) (co rfl (ki rfl rfl rfl rfl) (cm rfl ?_))))))))
 refine Ch.cs 18 rfl ?_ ?_ <;> intro h2 q2
 exfalso; have := q2; omega
 refine cy h2 rfl (kfa rfl fo49_1 rfl rfl) (cy h2 rfl (kl1 rfl one3 rfl) (cy h2 rfl (ki rfl rfl rfl rfl) (co rfl (kpf rfl rfl h2 rfl) (cm rfl ?_))))
 refine Ch.cs 23 rfl ?_ ?_ <;> intro h3 q3
 exfalso; have := q3; omega
 refine cy h3 rfl (ok_loadA rfl agg49 sz49 (vl rfl) rfl rfl) ?_
 refine cy h3 rfl (ok_call rfl (w_lean (c := c)) ⟨ke rfl, trivial⟩) ?_
 refine cy h3 rfl (ok_not rfl (vl rfl)) (co rfl (kpf rfl rfl h3 rfl) (Ch.nil (Fin.go (wk5 2 3 4 5 27 rfl ?_))))
 refine Tr.cn rfl ?_ ?_ <;> intro h4 q4
 rw [hlean] at h4; exact absurd h4 (by decide)
 refine Tr.skip (Fin.go (Tr.seq (Tr.regT (tp rfl (ok_loadA rfl agg35 sz35 (vl rfl) rfl rfl) ?_))))
 refine TO.callV rfl rfl (by decide) rfl (w_CopyEa hsm) ⟨ke rfl, trivial⟩ (fun v1 => ?_)
 refine TO.alloc rfl rfl (by decide) rfl z35 zo35 (fun b3 => ?_)
 refine TO.store_all 0 rfl rfl rfl (vl rfl) (VL.le (vl rfl) (agg_cellsP _)) rfl sz35 rfl rfl (TO.nil (Fin.go (Tr.seq (Tr.regT (tp rfl (ok_loadA rfl agg49 sz49 (vl rfl) rfl rfl) (tp rfl (kfa rfl fo49_0 rfl rfl) (tp rfl (kl1 rfl one3 rfl) (tp rfl (ok_build (rows := [(0, [_])]) rfl bl49 zo49 ⟨⟨rfl, (VL.le (vl rfl) (one_cellsP _))⟩, trivial⟩ rfl) (tp rfl (ok_build (rows := [(0, [_]), (1, _), (2, _)]) rfl bl147 zo147 ⟨⟨rfl, (VL.le (vl rfl) (one_cellsP _))⟩, ⟨⟨rfl, (VL.le (vl rfl) (agg_cellsP _))⟩, ⟨⟨rfl, (VL.le (vl rfl) (agg_cellsP _))⟩, trivial⟩⟩⟩ rfl) ?_)))))))))
 refine TO.boxm rfl rfl (by decide) rfl (VL.le (vl rfl) (agg_cellsP _)) (fun b4 => ?_)
 refine tm rfl (TO.nil (Fin.go (wk5 3 4 5 7 8 rfl (Tr.seq (Tr.seq (Tr.leC 0 (ptr b3 0 :: rowWt c (back0 c)) rfl ⟨Pr.le_refl _, Pr.le_refl _, Pr.le_refl _, Pr.le_refl _, Pr.le_refl _, Pr.le_refl _, Pr.le_refl _, Pr.le_refl _, Pr.le_refl _, Pr.le_refl _, Pr.le_refl _, Pr.le_refl _, Pr.le_refl _, Pr.le_refl _, Pr.le_refl _, Pr.le_refl _, nil_slice 15, trivial⟩ (Tr.regOne mixed 5 (by kernel_rfl) (ChOne.op rfl rfl (by decide) (ok_call rfl (w_kinds) trivial) (ChOne.op rfl rfl (by decide) (kfa rfl fo49_1 rfl rfl) (ChOne.op rfl rfl (by decide) (kl1 rfl one3 rfl) (ChOne.op rfl rfl (by decide) (ok_index1 rfl Tryz.underlying149 one148 sz148 (vl rfl) (vl rfl) (by omega) (by omega) hkp) (ChOne.op rfl rfl (by decide) (ok_move rfl (vl rfl)) ?_))))))))))))
 refine ChOne.turn _ rfl (by decide) (turn_callv _ rfl rfl (vl rfl) (hm _ _ _) ⟨ke rfl, trivial⟩ ((perm_at (j := 0) rfl).trans (List.Perm.cons _ ((perm_at (j := 0) rfl).trans (List.Perm.cons _ ((perm_at (j := 0) rfl).trans (List.Perm.cons _ (List.Perm.refl _)))))))) ?_
 refine cm rfl (Ch.nil (Fin.go (Tr.seq (Tr.reg0 (cm rfl (co rfl (ki rfl rfl rfl rfl) (Ch.nil (Fin.go (wk6 4 5 7 8 9 45 rfl ?_)))))))))
 refine Tr.cn rfl ?_ ?_ <;> intro h5 q5
 exact absurd h5 (by decide)
 refine Tr.skip (Fin.go (Tr.seq (Tr.seq (Tr.reg0 (co rfl (ok_rd 1 rfl (rd_loadA rfl agg35 sz35 (vl rfl) rfl rfl)) ?_)))))
 refine co rfl (ok_call rfl (w_ECheck (e := e2) hf2) ⟨ke rfl, trivial⟩) ?_
 refine co rfl (ki rfl rfl rfl rfl) (Ch.nil (Fin.go ?_))
 refine Tr.cn rfl ?_ ?_ <;> intro h6 q6
 refine Tr.seq (Tr.regT (tp rfl (ok_build (rows := []) rfl bl35 zo35 trivial rfl) (tp rfl (ok_build (rows := []) rfl bl49 zo49 trivial rfl) (TO.store_all 3 rfl rfl rfl (vl rfl) (VL.le (vl rfl) (agg_cellsP _)) rfl sz35 rfl rfl (TO.store_all 2 rfl rfl rfl (vl rfl) (VL.le (vl rfl) (agg_cellsP _)) rfl sz49 rfl rfl (tm rfl (TO.nil (Fin.go (Tr.ret (Fin.then_ret (Fin.retX3 rfl (RVal.cell 3 rfl rfl agg35 sz35 rfl (Pr.le_refl _)) (RVal.cell 2 rfl rfl agg49 sz49 rfl (Pr.le_refl _)) (RVal.tmp rfl (Pr.le_refl _)) ?_)))))))))))
 refine tup_le ⟨?_, ?_, ?_, trivial⟩
 · exact agg_le ⟨Pr.le_refl _, Pr.le_refl _, Pr.le_refl _, nil_slice 1, Pr.le_refl _, nil_slice 4, nil_slice 1, nil_slice 1, Pr.le_refl _, trivial⟩
 · exact agg_le ⟨Pr.le_refl _, Pr.le_refl _, Pr.le_refl _, Pr.le_refl _, Pr.le_refl _, Pr.le_refl _, Pr.le_refl _, nil_slice 15, trivial⟩
 · exact Pr.le_refl _
 exfalso; rw [if_neg (by rw [hce2]; decide)] at h6; exact absurd h6 (by decide)
set_option maxRecDepth 20000 in
set_option maxHeartbeats 1000000 in
theorem w_donehE {e e2 : Ept} {c b : Chg} {fk : Nat} {err : Int} (hf : e.fits) (hsm : e.small) (hce : eptB e = true) (hk : 1 ≤ c.kind ∧ c.kind ≤ 12) (hlean : leanB c = true) (hkp : kindsP[c.kind.toNat]? = some (fn (.func fk) [])) (he : err ≠ 0) (hm : ∀ (wb ob : Nat) (v : Value), FunD Tryz.prog fk [ptr wb 0] [resW wb ob c (back0 c), resO ob e (ints e.suites) (idns e.ids) (ints e.anchors) (is v), oweRes 3 1 (e.hashes.map fun n => [int n]) v] (int err) []) : Fun Tryz.prog 64 [agg (rowEp e), agg (rowChg c)] (tup [agg (rowEp zeroEp), agg (rowChg zeroChg), int err]) := by
 refine Fun.of Tryz.func64 rfl rfl (by exact Nat.le_of_ble_eq_true rfl) fun M0 w0 => ?_
 refine Tr.seq (Tr.regT (tp rfl (ok_box rfl (VL.le (vl rfl) (agg_cellsP _))) (tp rfl (ok_box rfl (VL.le (vl rfl) (agg_cellsP _))) ?_)))
 refine TO.alloc rfl rfl (by decide) rfl z35 zo35 (fun b1 => ?_)
 refine TO.alloc rfl rfl (by decide) rfl z49 zo49 (fun b2 => ?_)
 refine tm rfl (TO.nil (Fin.go (Tr.seq (Tr.seq (Tr.reg0 (co rfl (ok_loadA rfl agg35 sz35 (vl rfl) rfl rfl) (co rfl (ok_call rfl (w_ECheck hf) ⟨ke rfl, trivial⟩) (co rfl (ki rfl rfl rfl rfl) (Ch.nil (Fin.go ?_))))))))))
 refine Tr.cn rfl ?_ ?_ <;> intro h1 q1
 exfalso; rw [if_pos hce] at h1; exact absurd h1 (by decide)
 refine Tr.skip (Fin.go (Tr.seq (Tr.seq (Tr.reg0 (co rfl (kfa rfl fo49_1 rfl rfl) (co rfl (kl1 rfl one3 rfl) (co rfl (ki rfl rfl rfl rfl) (cm rfl ?_))))))))
 refine Ch.cs 18 rfl ?_ ?_ <;> intro h2 q2
 exfalso; have := q2; omega
 refine cy h2 rfl (kfa rfl fo49_1 rfl rfl) (cy h2 rfl (kl1 rfl one3 rfl) (cy h2 rfl (ki rfl rfl rfl rfl) (co rfl (kpf rfl rfl h2 rfl) (cm rfl ?_))))
 refine Ch.cs 23 rfl ?_ ?_ <;> intro h3 q3
 exfalso; have := q3; omega
 refine cy h3 rfl (ok_loadA rfl agg49 sz49 (vl rfl) rfl rfl) ?_
 refine cy h3 rfl (ok_call rfl (w_lean (c := c)) ⟨ke rfl, trivial⟩) ?_
 refine cy h3 rfl (ok_not rfl (vl rfl)) (co rfl (kpf rfl rfl h3 rfl) (Ch.nil (Fin.go (wk5 2 3 4 5 27 rfl ?_))))
 refine Tr.cn rfl ?_ ?_ <;> intro h4 q4
 rw [hlean] at h4; exact absurd h4 (by decide)
 refine Tr.skip (Fin.go (Tr.seq (Tr.regT (tp rfl (ok_loadA rfl agg35 sz35 (vl rfl) rfl rfl) ?_))))
 refine TO.callV rfl rfl (by decide) rfl (w_CopyEh hsm) ⟨ke rfl, trivial⟩ (fun v1 => ?_)
 refine TO.alloc rfl rfl (by decide) rfl z35 zo35 (fun b3 => ?_)
 refine TO.store_all 0 rfl rfl rfl (vl rfl) (VL.le (vl rfl) (agg_cellsP _)) rfl sz35 rfl rfl (TO.nil (Fin.go (Tr.seq (Tr.regT (tp rfl (ok_loadA rfl agg49 sz49 (vl rfl) rfl rfl) (tp rfl (kfa rfl fo49_0 rfl rfl) (tp rfl (kl1 rfl one3 rfl) (tp rfl (ok_build (rows := [(0, [_])]) rfl bl49 zo49 ⟨⟨rfl, (VL.le (vl rfl) (one_cellsP _))⟩, trivial⟩ rfl) (tp rfl (ok_build (rows := [(0, [_]), (1, _), (2, _)]) rfl bl147 zo147 ⟨⟨rfl, (VL.le (vl rfl) (one_cellsP _))⟩, ⟨⟨rfl, (VL.le (vl rfl) (agg_cellsP _))⟩, ⟨⟨rfl, (VL.le (vl rfl) (agg_cellsP _))⟩, trivial⟩⟩⟩ rfl) ?_)))))))))
 refine TO.boxm rfl rfl (by decide) rfl (VL.le (vl rfl) (agg_cellsP _)) (fun b4 => ?_)
 refine tm rfl (TO.nil (Fin.go (wk5 3 4 5 7 8 rfl (Tr.seq (Tr.seq (Tr.leC 0 (ptr b3 0 :: rowWt c (back0 c)) rfl ⟨Pr.le_refl _, Pr.le_refl _, Pr.le_refl _, Pr.le_refl _, Pr.le_refl _, Pr.le_refl _, Pr.le_refl _, Pr.le_refl _, Pr.le_refl _, Pr.le_refl _, Pr.le_refl _, Pr.le_refl _, Pr.le_refl _, Pr.le_refl _, Pr.le_refl _, Pr.le_refl _, nil_slice 15, trivial⟩ (Tr.regOne mixed 5 (by kernel_rfl) (ChOne.op rfl rfl (by decide) (ok_call rfl (w_kinds) trivial) (ChOne.op rfl rfl (by decide) (kfa rfl fo49_1 rfl rfl) (ChOne.op rfl rfl (by decide) (kl1 rfl one3 rfl) (ChOne.op rfl rfl (by decide) (ok_index1 rfl Tryz.underlying149 one148 sz148 (vl rfl) (vl rfl) (by omega) (by omega) hkp) (ChOne.op rfl rfl (by decide) (ok_move rfl (vl rfl)) ?_))))))))))))
 refine ChOne.turn _ rfl (by decide) (turn_callv _ rfl rfl (vl rfl) (hm _ _ _) ⟨ke rfl, trivial⟩ ((perm_at (j := 0) rfl).trans (List.Perm.cons _ ((perm_at (j := 0) rfl).trans (List.Perm.cons _ ((perm_at (j := 0) rfl).trans (List.Perm.cons _ (List.Perm.refl _)))))))) ?_
 refine cm rfl (Ch.nil (Fin.go (Tr.seq (Tr.reg0 (cm rfl (co rfl (ki rfl rfl rfl rfl) (Ch.nil (Fin.go (wk6 4 5 7 8 9 45 rfl ?_)))))))))
 refine Tr.cn rfl ?_ ?_ <;> intro h5 q5
 refine Tr.seq (Tr.regT (tp rfl (ok_build (rows := []) rfl bl35 zo35 trivial rfl) (tp rfl (ok_build (rows := []) rfl bl49 zo49 trivial rfl) (tm rfl (TO.store_all 1 rfl rfl rfl (vl rfl) (VL.le (vl rfl) (agg_cellsP _)) rfl sz35 rfl rfl (TO.store_all 0 rfl rfl rfl (vl rfl) (VL.le (vl rfl) (agg_cellsP _)) rfl sz49 rfl rfl (tm rfl (TO.nil (Fin.go (Tr.ret (Fin.then_ret (Fin.retX3 rfl (RVal.cell 1 rfl rfl agg35 sz35 rfl (Pr.le_refl _)) (RVal.cell 0 rfl rfl agg49 sz49 rfl (Pr.le_refl _)) (RVal.tmp rfl (Pr.le_refl _)) ?_))))))))))))
 refine tup_le ⟨?_, ?_, ?_, trivial⟩
 · exact agg_le ⟨Pr.le_refl _, Pr.le_refl _, Pr.le_refl _, nil_slice 1, Pr.le_refl _, nil_slice 4, nil_slice 1, nil_slice 1, Pr.le_refl _, trivial⟩
 · exact agg_le ⟨Pr.le_refl _, Pr.le_refl _, Pr.le_refl _, Pr.le_refl _, Pr.le_refl _, Pr.le_refl _, Pr.le_refl _, nil_slice 15, trivial⟩
 · exact Pr.le_refl _
 exfalso; have := q5; omega
set_option maxRecDepth 20000 in
set_option maxHeartbeats 1000000 in
theorem w_donehY {e e2 : Ept} {c b : Chg} {fk : Nat} {err : Int} (hf : e.fits) (hsm : e.small) (hce : eptB e = true) (hk : 1 ≤ c.kind ∧ c.kind ≤ 12) (hlean : leanB c = true) (hkp : kindsP[c.kind.toNat]? = some (fn (.func fk) [])) (hbk : b.idn.small) (hf2 : e2.fits) (hce2 : eptB e2 = true) (hm : ∀ (wb ob : Nat) (v : Value), FunD Tryz.prog fk [ptr wb 0] [resW wb ob c (back0 c), resO ob e (ints e.suites) (idns e.ids) (ints e.anchors) (is v), oweRes 3 1 (e.hashes.map fun n => [int n]) v] (int 0) [resW wb ob c b, cellsRes true ob 35 (rowEp e2)]) : Fun Tryz.prog 64 [agg (rowEp e), agg (rowChg c)] (tup [agg (rowEp e2), agg (rowChg b), int 0]) := by
 refine Fun.of Tryz.func64 rfl rfl (by exact Nat.le_of_ble_eq_true rfl) fun M0 w0 => ?_
 refine Tr.seq (Tr.regT (tp rfl (ok_box rfl (VL.le (vl rfl) (agg_cellsP _))) (tp rfl (ok_box rfl (VL.le (vl rfl) (agg_cellsP _))) ?_)))
 refine TO.alloc rfl rfl (by decide) rfl z35 zo35 (fun b1 => ?_)
 refine TO.alloc rfl rfl (by decide) rfl z49 zo49 (fun b2 => ?_)
 refine tm rfl (TO.nil (Fin.go (Tr.seq (Tr.seq (Tr.reg0 (co rfl (ok_loadA rfl agg35 sz35 (vl rfl) rfl rfl) (co rfl (ok_call rfl (w_ECheck hf) ⟨ke rfl, trivial⟩) (co rfl (ki rfl rfl rfl rfl) (Ch.nil (Fin.go ?_))))))))))
 refine Tr.cn rfl ?_ ?_ <;> intro h1 q1
 exfalso; rw [if_pos hce] at h1; exact absurd h1 (by decide)
 refine Tr.skip (Fin.go (Tr.seq (Tr.seq (Tr.reg0 (co rfl (kfa rfl fo49_1 rfl rfl) (co rfl (kl1 rfl one3 rfl) (co rfl (ki rfl rfl rfl rfl) (cm rfl ?_))))))))
 refine Ch.cs 18 rfl ?_ ?_ <;> intro h2 q2
 exfalso; have := q2; omega
 refine cy h2 rfl (kfa rfl fo49_1 rfl rfl) (cy h2 rfl (kl1 rfl one3 rfl) (cy h2 rfl (ki rfl rfl rfl rfl) (co rfl (kpf rfl rfl h2 rfl) (cm rfl ?_))))
 refine Ch.cs 23 rfl ?_ ?_ <;> intro h3 q3
 exfalso; have := q3; omega
 refine cy h3 rfl (ok_loadA rfl agg49 sz49 (vl rfl) rfl rfl) ?_
 refine cy h3 rfl (ok_call rfl (w_lean (c := c)) ⟨ke rfl, trivial⟩) ?_
 refine cy h3 rfl (ok_not rfl (vl rfl)) (co rfl (kpf rfl rfl h3 rfl) (Ch.nil (Fin.go (wk5 2 3 4 5 27 rfl ?_))))
 refine Tr.cn rfl ?_ ?_ <;> intro h4 q4
 rw [hlean] at h4; exact absurd h4 (by decide)
 refine Tr.skip (Fin.go (Tr.seq (Tr.regT (tp rfl (ok_loadA rfl agg35 sz35 (vl rfl) rfl rfl) ?_))))
 refine TO.callV rfl rfl (by decide) rfl (w_CopyEh hsm) ⟨ke rfl, trivial⟩ (fun v1 => ?_)
 refine TO.alloc rfl rfl (by decide) rfl z35 zo35 (fun b3 => ?_)
 refine TO.store_all 0 rfl rfl rfl (vl rfl) (VL.le (vl rfl) (agg_cellsP _)) rfl sz35 rfl rfl (TO.nil (Fin.go (Tr.seq (Tr.regT (tp rfl (ok_loadA rfl agg49 sz49 (vl rfl) rfl rfl) (tp rfl (kfa rfl fo49_0 rfl rfl) (tp rfl (kl1 rfl one3 rfl) (tp rfl (ok_build (rows := [(0, [_])]) rfl bl49 zo49 ⟨⟨rfl, (VL.le (vl rfl) (one_cellsP _))⟩, trivial⟩ rfl) (tp rfl (ok_build (rows := [(0, [_]), (1, _), (2, _)]) rfl bl147 zo147 ⟨⟨rfl, (VL.le (vl rfl) (one_cellsP _))⟩, ⟨⟨rfl, (VL.le (vl rfl) (agg_cellsP _))⟩, ⟨⟨rfl, (VL.le (vl rfl) (agg_cellsP _))⟩, trivial⟩⟩⟩ rfl) ?_)))))))))
 refine TO.boxm rfl rfl (by decide) rfl (VL.le (vl rfl) (agg_cellsP _)) (fun b4 => ?_)
 refine tm rfl (TO.nil (Fin.go (wk5 3 4 5 7 8 rfl (Tr.seq (Tr.seq (Tr.leC 0 (ptr b3 0 :: rowWt c (back0 c)) rfl ⟨Pr.le_refl _, Pr.le_refl _, Pr.le_refl _, Pr.le_refl _, Pr.le_refl _, Pr.le_refl _, Pr.le_refl _, Pr.le_refl _, Pr.le_refl _, Pr.le_refl _, Pr.le_refl _, Pr.le_refl _, Pr.le_refl _, Pr.le_refl _, Pr.le_refl _, Pr.le_refl _, nil_slice 15, trivial⟩ (Tr.regOne mixed 5 (by kernel_rfl) (ChOne.op rfl rfl (by decide) (ok_call rfl (w_kinds) trivial) (ChOne.op rfl rfl (by decide) (kfa rfl fo49_1 rfl rfl) (ChOne.op rfl rfl (by decide) (kl1 rfl one3 rfl) (ChOne.op rfl rfl (by decide) (ok_index1 rfl Tryz.underlying149 one148 sz148 (vl rfl) (vl rfl) (by omega) (by omega) hkp) (ChOne.op rfl rfl (by decide) (ok_move rfl (vl rfl)) ?_))))))))))))
 refine ChOne.turn _ rfl (by decide) (turn_callv _ rfl rfl (vl rfl) (hm _ _ _) ⟨ke rfl, trivial⟩ ((perm_at (j := 0) rfl).trans (List.Perm.cons _ ((perm_at (j := 0) rfl).trans (List.Perm.cons _ ((perm_at (j := 0) rfl).trans (List.Perm.cons _ (List.Perm.refl _)))))))) ?_
 refine cm rfl (Ch.nil (Fin.go (Tr.seq (Tr.reg0 (cm rfl (co rfl (ki rfl rfl rfl rfl) (Ch.nil (Fin.go (wk6 4 5 7 8 9 45 rfl ?_)))))))))
 refine Tr.cn rfl ?_ ?_ <;> intro h5 q5
 exact absurd h5 (by decide)
 refine Tr.skip (Fin.go (Tr.seq (Tr.seq (Tr.reg0 (co rfl (ok_rd 1 rfl (rd_loadA rfl agg35 sz35 (vl rfl) rfl rfl)) ?_)))))
 refine co rfl (ok_call rfl (w_ECheck (e := e2) hf2) ⟨ke rfl, trivial⟩) ?_
 refine co rfl (ki rfl rfl rfl rfl) (Ch.nil (Fin.go ?_))
 refine Tr.cn rfl ?_ ?_ <;> intro h6 q6
 exfalso; rw [if_pos hce2] at h6; exact absurd h6 (by decide)
 refine Tr.skip (Fin.go (Tr.seq (Tr.regX mixed [some (0, 1, false, 0), none, none, none, some (0, 0, false, 0), none, some (0, 3, true, 0), some (0, 2, true, 0), none] (by kernel_rfl) (xrd 1 rfl rfl (rd_loadA rfl agg35 sz35 (vl rfl) rfl rfl) (xm rfl (xo rfl (fun _ => okp_nilCheck rfl (vl rfl)) (xo rfl (fun _ => okp_fieldAddr rfl fo147_2 (vl rfl)) (xrd 0 rfl rfl (rd_loadA rfl agg49 sz49 (vl rfl) rfl rfl) ?_))))))))
 refine xo rfl (fun _ => ok_call rfl (w_CopyC (c := b) hbk) ⟨ke rfl, trivial⟩) ?_
 refine Cx.ef0 3 rfl rfl (ef_store rfl rfl (vl rfl) (VL.le (vl rfl) (agg_cellsP _)) sz35 rfl (by exact Nat.le_of_ble_eq_true rfl) rfl) (Cx.ef0 2 rfl rfl (ef_store rfl rfl (vl rfl) (VL.le (vl rfl) (agg_cellsP _)) sz49 rfl (by exact Nat.le_of_ble_eq_true rfl) rfl) (xm rfl ?_))
 refine Cx.nil ⟨rfl, ?_⟩
 refine FinX.done (AllC.cons (AllC.cons (AllC.cons (AllC.cons (AllC.map _))))) (Fin.go (wk3 4 5 6 rfl (Tr.ret (Fin.retX3 rfl (RVal.cell 3 rfl rfl agg35 sz35 rfl (Pr.le_refl _)) (RVal.cell 2 rfl rfl agg49 sz49 rfl (Pr.le_refl _)) (RVal.tmp rfl (Pr.le_refl _)) ?_))))
 refine tup_le ⟨?_, ?_, ?_, trivial⟩
 · exact Pr.le_refl _
 · exact Pr.le_refl _
 · exact Pr.le_refl _
set_option maxRecDepth 20000 in
set_option maxHeartbeats 1000000 in
theorem w_donehV {e e2 : Ept} {c b : Chg} {fk : Nat} {err : Int} (hf : e.fits) (hsm : e.small) (hce : eptB e = true) (hk : 1 ≤ c.kind ∧ c.kind ≤ 12) (hlean : leanB c = true) (hkp : kindsP[c.kind.toNat]? = some (fn (.func fk) [])) (hbk : b.idn.small) (hf2 : e2.fits) (hce2 : eptB e2 = false) (hm : ∀ (wb ob : Nat) (v : Value), FunD Tryz.prog fk [ptr wb 0] [resW wb ob c (back0 c), resO ob e (ints e.suites) (idns e.ids) (ints e.anchors) (is v), oweRes 3 1 (e.hashes.map fun n => [int n]) v] (int 0) [resW wb ob c b, cellsRes true ob 35 (rowEp e2)]) : Fun Tryz.prog 64 [agg (rowEp e), agg (rowChg c)] (tup [agg (rowEp zeroEp), agg (rowChg zeroChg), int 18]) := by
 refine Fun.of Tryz.func64 rfl rfl (by exact Nat.le_of_ble_eq_true rfl) fun M0 w0 => ?_
 refine Tr.seq (Tr.regT (tp rfl (ok_box rfl (VL.le (vl rfl) (agg_cellsP _))) (tp rfl (ok_box rfl (VL.le (vl rfl) (agg_cellsP _))) ?_)))
 refine TO.alloc rfl rfl (by decide) rfl z35 zo35 (fun b1 => ?_)
 refine TO.alloc rfl rfl (by decide) rfl z49 zo49 (fun b2 => ?_)
 refine tm rfl (TO.nil (Fin.go (Tr.seq (Tr.seq (Tr.reg0 (co rfl (ok_loadA rfl agg35 sz35 (vl rfl) rfl rfl) (co rfl (ok_call rfl (w_ECheck hf) ⟨ke rfl, trivial⟩) (co rfl (ki rfl rfl rfl rfl) (Ch.nil (Fin.go ?_))))))))))
 refine Tr.cn rfl ?_ ?_ <;> intro h1 q1
 exfalso; rw [if_pos hce] at h1; exact absurd h1 (by decide)
 refine Tr.skip (Fin.go (Tr.seq (Tr.seq (Tr.reg0 (co rfl (kfa rfl fo49_1 rfl rfl) (co rfl (kl1 rfl one3 rfl) (co rfl (ki rfl rfl rfl rfl) (cm rfl ?_))))))))
 refine Ch.cs 18 rfl ?_ ?_ <;> intro h2 q2
 exfalso; have := q2; omega
 refine cy h2 rfl (kfa rfl fo49_1 rfl rfl) (cy h2 rfl (kl1 rfl one3 rfl) (cy h2 rfl (ki rfl rfl rfl rfl) (co rfl (kpf rfl rfl h2 rfl) (cm rfl ?_))))
 refine Ch.cs 23 rfl ?_ ?_ <;> intro h3 q3
 exfalso; have := q3; omega
 refine cy h3 rfl (ok_loadA rfl agg49 sz49 (vl rfl) rfl rfl) ?_
 refine cy h3 rfl (ok_call rfl (w_lean (c := c)) ⟨ke rfl, trivial⟩) ?_
 refine cy h3 rfl (ok_not rfl (vl rfl)) (co rfl (kpf rfl rfl h3 rfl) (Ch.nil (Fin.go (wk5 2 3 4 5 27 rfl ?_))))
 refine Tr.cn rfl ?_ ?_ <;> intro h4 q4
 rw [hlean] at h4; exact absurd h4 (by decide)
 refine Tr.skip (Fin.go (Tr.seq (Tr.regT (tp rfl (ok_loadA rfl agg35 sz35 (vl rfl) rfl rfl) ?_))))
 refine TO.callV rfl rfl (by decide) rfl (w_CopyEh hsm) ⟨ke rfl, trivial⟩ (fun v1 => ?_)
 refine TO.alloc rfl rfl (by decide) rfl z35 zo35 (fun b3 => ?_)
 refine TO.store_all 0 rfl rfl rfl (vl rfl) (VL.le (vl rfl) (agg_cellsP _)) rfl sz35 rfl rfl (TO.nil (Fin.go (Tr.seq (Tr.regT (tp rfl (ok_loadA rfl agg49 sz49 (vl rfl) rfl rfl) (tp rfl (kfa rfl fo49_0 rfl rfl) (tp rfl (kl1 rfl one3 rfl) (tp rfl (ok_build (rows := [(0, [_])]) rfl bl49 zo49 ⟨⟨rfl, (VL.le (vl rfl) (one_cellsP _))⟩, trivial⟩ rfl) (tp rfl (ok_build (rows := [(0, [_]), (1, _), (2, _)]) rfl bl147 zo147 ⟨⟨rfl, (VL.le (vl rfl) (one_cellsP _))⟩, ⟨⟨rfl, (VL.le (vl rfl) (agg_cellsP _))⟩, ⟨⟨rfl, (VL.le (vl rfl) (agg_cellsP _))⟩, trivial⟩⟩⟩ rfl) ?_)))))))))
 refine TO.boxm rfl rfl (by decide) rfl (VL.le (vl rfl) (agg_cellsP _)) (fun b4 => ?_)
 refine tm rfl (TO.nil (Fin.go (wk5 3 4 5 7 8 rfl (Tr.seq (Tr.seq (Tr.leC 0 (ptr b3 0 :: rowWt c (back0 c)) rfl ⟨Pr.le_refl _, Pr.le_refl _, Pr.le_refl _, Pr.le_refl _, Pr.le_refl _, Pr.le_refl _, Pr.le_refl _, Pr.le_refl _, Pr.le_refl _, Pr.le_refl _, Pr.le_refl _, Pr.le_refl _, Pr.le_refl _, Pr.le_refl _, Pr.le_refl _, Pr.le_refl _, nil_slice 15, trivial⟩ (Tr.regOne mixed 5 (by kernel_rfl) (ChOne.op rfl rfl (by decide) (ok_call rfl (w_kinds) trivial) (ChOne.op rfl rfl (by decide) (kfa rfl fo49_1 rfl rfl) (ChOne.op rfl rfl (by decide) (kl1 rfl one3 rfl) (ChOne.op rfl rfl (by decide) (ok_index1 rfl Tryz.underlying149 one148 sz148 (vl rfl) (vl rfl) (by omega) (by omega) hkp) (ChOne.op rfl rfl (by decide) (ok_move rfl (vl rfl)) ?_))))))))))))
 refine ChOne.turn _ rfl (by decide) (turn_callv _ rfl rfl (vl rfl) (hm _ _ _) ⟨ke rfl, trivial⟩ ((perm_at (j := 0) rfl).trans (List.Perm.cons _ ((perm_at (j := 0) rfl).trans (List.Perm.cons _ ((perm_at (j := 0) rfl).trans (List.Perm.cons _ (List.Perm.refl _)))))))) ?_
 refine cm rfl (Ch.nil (Fin.go (Tr.seq (Tr.reg0 (cm rfl (co rfl (ki rfl rfl rfl rfl) (Ch.nil (Fin.go (wk6 4 5 7 8 9 45 rfl ?_)))))))))
 refine Tr.cn rfl ?_ ?_ <;> intro h5 q5
 exact absurd h5 (by decide)
 refine Tr.skip (Fin.go (Tr.seq (Tr.seq (Tr.reg0 (co rfl (ok_rd 1 rfl (rd_loadA rfl agg35 sz35 (vl rfl) rfl rfl)) ?_)))))
 refine co rfl (ok_call rfl (w_ECheck (e := e2) hf2) ⟨ke rfl, trivial⟩) ?_
 refine co rfl (ki rfl rfl rfl rfl) (Ch.nil (Fin.go ?_))
 refine Tr.cn rfl ?_ ?_ <;> intro h6 q6
 refine Tr.seq (Tr.regT (tp rfl (ok_build (rows := []) rfl bl35 zo35 trivial rfl) (tp rfl (ok_build (rows := []) rfl bl49 zo49 trivial rfl) (TO.store_all 3 rfl rfl rfl (vl rfl) (VL.le (vl rfl) (agg_cellsP _)) rfl sz35 rfl rfl (TO.store_all 2 rfl rfl rfl (vl rfl) (VL.le (vl rfl) (agg_cellsP _)) rfl sz49 rfl rfl (tm rfl (TO.nil (Fin.go (Tr.ret (Fin.then_ret (Fin.retX3 rfl (RVal.cell 3 rfl rfl agg35 sz35 rfl (Pr.le_refl _)) (RVal.cell 2 rfl rfl agg49 sz49 rfl (Pr.le_refl _)) (RVal.tmp rfl (Pr.le_refl _)) ?_)))))))))))
 refine tup_le ⟨?_, ?_, ?_, trivial⟩
 · exact agg_le ⟨Pr.le_refl _, Pr.le_refl _, Pr.le_refl _, nil_slice 1, Pr.le_refl _, nil_slice 4, nil_slice 1, nil_slice 1, Pr.le_refl _, trivial⟩
 · exact agg_le ⟨Pr.le_refl _, Pr.le_refl _, Pr.le_refl _, Pr.le_refl _, Pr.le_refl _, Pr.le_refl _, Pr.le_refl _, nil_slice 15, trivial⟩
 · exact Pr.le_refl _
 exfalso; rw [if_neg (by rw [hce2]; decide)] at h6; exact absurd h6 (by decide)
set_option maxRecDepth 20000 in
set_option maxHeartbeats 1000000 in
theorem w_donezE {e e2 : Ept} {c b : Chg} {fk : Nat} {err : Int} (hf : e.fits) (hsm : e.small) (hce : eptB e = true) (hk : 1 ≤ c.kind ∧ c.kind ≤ 12) (hlean : leanB c = true) (hkp : kindsP[c.kind.toNat]? = some (fn (.func fk) [])) (he : err ≠ 0) (hm : ∀ (wb ob : Nat), FunD Tryz.prog fk [ptr wb 0] [resW wb ob c (back0 c), resO ob e (ints e.suites) (idns e.ids) (ints e.anchors) (ints e.hashes)] (int err) []) : Fun Tryz.prog 64 [agg (rowEp e), agg (rowChg c)] (tup [agg (rowEp zeroEp), agg (rowChg zeroChg), int err]) := by
 refine Fun.of Tryz.func64 rfl rfl (by exact Nat.le_of_ble_eq_true rfl) fun M0 w0 => ?_
 refine Tr.seq (Tr.regT (tp rfl (ok_box rfl (VL.le (vl rfl) (agg_cellsP _))) (tp rfl (ok_box rfl (VL.le (vl rfl) (agg_cellsP _))) ?_)))
 refine TO.alloc rfl rfl (by decide) rfl z35 zo35 (fun b1 => ?_)
 refine TO.alloc rfl rfl (by decide) rfl z49 zo49 (fun b2 => ?_)
 refine tm rfl (TO.nil (Fin.go (Tr.seq (Tr.seq (Tr.reg0 (co rfl (ok_loadA rfl agg35 sz35 (vl rfl) rfl rfl) (co rfl (ok_call rfl (w_ECheck hf) ⟨ke rfl, trivial⟩) (co rfl (ki rfl rfl rfl rfl) (Ch.nil (Fin.go ?_))))))))))
 refine Tr.cn rfl ?_ ?_ <;> intro h1 q1
 exfalso; rw [if_pos hce] at h1; exact absurd h1 (by decide)
 refine Tr.skip (Fin.go (Tr.seq (Tr.seq (Tr.reg0 (co rfl (kfa rfl fo49_1 rfl rfl) (co rfl (kl1 rfl one3 rfl) (co rfl (ki rfl rfl rfl rfl) (cm rfl ?_))))))))
 refine Ch.cs 18 rfl ?_ ?_ <;> intro h2 q2
 exfalso; have := q2; omega
 refine cy h2 rfl (kfa rfl fo49_1 rfl rfl) (cy h2 rfl (kl1 rfl one3 rfl) (cy h2 rfl (ki rfl rfl rfl rfl) (co rfl (kpf rfl rfl h2 rfl) (cm rfl ?_))))
 refine Ch.cs 23 rfl ?_ ?_ <;> intro h3 q3
 exfalso; have := q3; omega
 refine cy h3 rfl (ok_loadA rfl agg49 sz49 (vl rfl) rfl rfl) ?_
 refine cy h3 rfl (ok_call rfl (w_lean (c := c)) ⟨ke rfl, trivial⟩) ?_
 refine cy h3 rfl (ok_not rfl (vl rfl)) (co rfl (kpf rfl rfl h3 rfl) (Ch.nil (Fin.go (wk5 2 3 4 5 27 rfl ?_))))
 refine Tr.cn rfl ?_ ?_ <;> intro h4 q4
 rw [hlean] at h4; exact absurd h4 (by decide)
 refine Tr.skip (Fin.go (Tr.seq (Tr.regT (tp rfl (ok_loadA rfl agg35 sz35 (vl rfl) rfl rfl) (tp rfl (ok_call rfl (w_CopyEz hsm) ⟨ke rfl, trivial⟩) ?_)))))
 refine TO.alloc rfl rfl (by decide) rfl z35 zo35 (fun b3 => ?_)
 refine TO.store_all 0 rfl rfl rfl (vl rfl) (VL.le (vl rfl) (agg_cellsP _)) rfl sz35 rfl rfl (TO.nil (Fin.go (Tr.seq (Tr.regT (tp rfl (ok_loadA rfl agg49 sz49 (vl rfl) rfl rfl) (tp rfl (kfa rfl fo49_0 rfl rfl) (tp rfl (kl1 rfl one3 rfl) (tp rfl (ok_build (rows := [(0, [_])]) rfl bl49 zo49 ⟨⟨rfl, (VL.le (vl rfl) (one_cellsP _))⟩, trivial⟩ rfl) (tp rfl (ok_build (rows := [(0, [_]), (1, _), (2, _)]) rfl bl147 zo147 ⟨⟨rfl, (VL.le (vl rfl) (one_cellsP _))⟩, ⟨⟨rfl, (VL.le (vl rfl) (agg_cellsP _))⟩, ⟨⟨rfl, (VL.le (vl rfl) (agg_cellsP _))⟩, trivial⟩⟩⟩ rfl) ?_)))))))))
 refine TO.boxm rfl rfl (by decide) rfl (VL.le (vl rfl) (agg_cellsP _)) (fun b4 => ?_)
 refine tm rfl (TO.nil (Fin.go (wk5 3 4 5 7 8 rfl (Tr.seq (Tr.seq (Tr.leC 0 (ptr b3 0 :: rowWt c (back0 c)) rfl ⟨Pr.le_refl _, Pr.le_refl _, Pr.le_refl _, Pr.le_refl _, Pr.le_refl _, Pr.le_refl _, Pr.le_refl _, Pr.le_refl _, Pr.le_refl _, Pr.le_refl _, Pr.le_refl _, Pr.le_refl _, Pr.le_refl _, Pr.le_refl _, Pr.le_refl _, Pr.le_refl _, nil_slice 15, trivial⟩ (Tr.regOne mixed 5 (by kernel_rfl) (ChOne.op rfl rfl (by decide) (ok_call rfl (w_kinds) trivial) (ChOne.op rfl rfl (by decide) (kfa rfl fo49_1 rfl rfl) (ChOne.op rfl rfl (by decide) (kl1 rfl one3 rfl) (ChOne.op rfl rfl (by decide) (ok_index1 rfl Tryz.underlying149 one148 sz148 (vl rfl) (vl rfl) (by omega) (by omega) hkp) (ChOne.op rfl rfl (by decide) (ok_move rfl (vl rfl)) ?_))))))))))))
 refine ChOne.turn _ rfl (by decide) (turn_callv _ rfl rfl (vl rfl) (hm _ _) ⟨ke rfl, trivial⟩ ((perm_at (j := 0) rfl).trans (List.Perm.cons _ ((perm_at (j := 0) rfl).trans (List.Perm.cons _ (List.Perm.refl _)))))) ?_
 refine cm rfl (Ch.nil (Fin.go (Tr.seq (Tr.reg0 (cm rfl (co rfl (ki rfl rfl rfl rfl) (Ch.nil (Fin.go (wk6 4 5 7 8 9 45 rfl ?_)))))))))
 refine Tr.cn rfl ?_ ?_ <;> intro h5 q5
 refine Tr.seq (Tr.regT (tp rfl (ok_build (rows := []) rfl bl35 zo35 trivial rfl) (tp rfl (ok_build (rows := []) rfl bl49 zo49 trivial rfl) (tm rfl (TO.store_all 1 rfl rfl rfl (vl rfl) (VL.le (vl rfl) (agg_cellsP _)) rfl sz35 rfl rfl (TO.store_all 0 rfl rfl rfl (vl rfl) (VL.le (vl rfl) (agg_cellsP _)) rfl sz49 rfl rfl (tm rfl (TO.nil (Fin.go (Tr.ret (Fin.then_ret (Fin.retX3 rfl (RVal.cell 1 rfl rfl agg35 sz35 rfl (Pr.le_refl _)) (RVal.cell 0 rfl rfl agg49 sz49 rfl (Pr.le_refl _)) (RVal.tmp rfl (Pr.le_refl _)) ?_))))))))))))
 refine tup_le ⟨?_, ?_, ?_, trivial⟩
 · exact agg_le ⟨Pr.le_refl _, Pr.le_refl _, Pr.le_refl _, nil_slice 1, Pr.le_refl _, nil_slice 4, nil_slice 1, nil_slice 1, Pr.le_refl _, trivial⟩
 · exact agg_le ⟨Pr.le_refl _, Pr.le_refl _, Pr.le_refl _, Pr.le_refl _, Pr.le_refl _, Pr.le_refl _, Pr.le_refl _, nil_slice 15, trivial⟩
 · exact Pr.le_refl _
 exfalso; have := q5; omega
set_option maxRecDepth 20000 in
set_option maxHeartbeats 1000000 in
theorem w_donezY {e e2 : Ept} {c b : Chg} {fk : Nat} {err : Int} (hf : e.fits) (hsm : e.small) (hce : eptB e = true) (hk : 1 ≤ c.kind ∧ c.kind ≤ 12) (hlean : leanB c = true) (hkp : kindsP[c.kind.toNat]? = some (fn (.func fk) [])) (hbk : b.idn.small) (hf2 : e2.fits) (hce2 : eptB e2 = true) (hm : ∀ (wb ob : Nat), FunD Tryz.prog fk [ptr wb 0] [resW wb ob c (back0 c), resO ob e (ints e.suites) (idns e.ids) (ints e.anchors) (ints e.hashes)] (int 0) [resW wb ob c b, cellsRes true ob 35 (rowEp e2)]) : Fun Tryz.prog 64 [agg (rowEp e), agg (rowChg c)] (tup [agg (rowEp e2), agg (rowChg b), int 0]) := by
 refine Fun.of Tryz.func64 rfl rfl (by exact Nat.le_of_ble_eq_true rfl) fun M0 w0 => ?_
 refine Tr.seq (Tr.regT (tp rfl (ok_box rfl (VL.le (vl rfl) (agg_cellsP _))) (tp rfl (ok_box rfl (VL.le (vl rfl) (agg_cellsP _))) ?_)))
 refine TO.alloc rfl rfl (by decide) rfl z35 zo35 (fun b1 => ?_)
 refine TO.alloc rfl rfl (by decide) rfl z49 zo49 (fun b2 => ?_)
 refine tm rfl (TO.nil (Fin.go (Tr.seq (Tr.seq (Tr.reg0 (co rfl (ok_loadA rfl agg35 sz35 (vl rfl) rfl rfl) (co rfl (ok_call rfl (w_ECheck hf) ⟨ke rfl, trivial⟩) (co rfl (ki rfl rfl rfl rfl) (Ch.nil (Fin.go ?_))))))))))
 refine Tr.cn rfl ?_ ?_ <;> intro h1 q1
 exfalso; rw [if_pos hce] at h1; exact absurd h1 (by decide)
 refine Tr.skip (Fin.go (Tr.seq (Tr.seq (Tr.reg0 (co rfl (kfa rfl fo49_1 rfl rfl) (co rfl (kl1 rfl one3 rfl) (co rfl (ki rfl rfl rfl rfl) (cm rfl ?_))))))))
 refine Ch.cs 18 rfl ?_ ?_ <;> intro h2 q2
 exfalso; have := q2; omega
 refine cy h2 rfl (kfa rfl fo49_1 rfl rfl) (cy h2 rfl (kl1 rfl one3 rfl) (cy h2 rfl (ki rfl rfl rfl rfl) (co rfl (kpf rfl rfl h2 rfl) (cm rfl ?_))))
 refine Ch.cs 23 rfl ?_ ?_ <;> intro h3 q3
 exfalso; have := q3; omega
 refine cy h3 rfl (ok_loadA rfl agg49 sz49 (vl rfl) rfl rfl) ?_
 refine cy h3 rfl (ok_call rfl (w_lean (c := c)) ⟨ke rfl, trivial⟩) ?_
 refine cy h3 rfl (ok_not rfl (vl rfl)) (co rfl (kpf rfl rfl h3 rfl) (Ch.nil (Fin.go (wk5 2 3 4 5 27 rfl ?_))))
 refine Tr.cn rfl ?_ ?_ <;> intro h4 q4
 rw [hlean] at h4; exact absurd h4 (by decide)
 refine Tr.skip (Fin.go (Tr.seq (Tr.regT (tp rfl (ok_loadA rfl agg35 sz35 (vl rfl) rfl rfl) (tp rfl (ok_call rfl (w_CopyEz hsm) ⟨ke rfl, trivial⟩) ?_)))))
 refine TO.alloc rfl rfl (by decide) rfl z35 zo35 (fun b3 => ?_)
 refine TO.store_all 0 rfl rfl rfl (vl rfl) (VL.le (vl rfl) (agg_cellsP _)) rfl sz35 rfl rfl (TO.nil (Fin.go (Tr.seq (Tr.regT (tp rfl (ok_loadA rfl agg49 sz49 (vl rfl) rfl rfl) (tp rfl (kfa rfl fo49_0 rfl rfl) (tp rfl (kl1 rfl one3 rfl) (tp rfl (ok_build (rows := [(0, [_])]) rfl bl49 zo49 ⟨⟨rfl, (VL.le (vl rfl) (one_cellsP _))⟩, trivial⟩ rfl) (tp rfl (ok_build (rows := [(0, [_]), (1, _), (2, _)]) rfl bl147 zo147 ⟨⟨rfl, (VL.le (vl rfl) (one_cellsP _))⟩, ⟨⟨rfl, (VL.le (vl rfl) (agg_cellsP _))⟩, ⟨⟨rfl, (VL.le (vl rfl) (agg_cellsP _))⟩, trivial⟩⟩⟩ rfl) ?_)))))))))
 refine TO.boxm rfl rfl (by decide) rfl (VL.le (vl rfl) (agg_cellsP _)) (fun b4 => ?_)
 refine tm rfl (TO.nil (Fin.go (wk5 3 4 5 7 8 rfl (Tr.seq (Tr.seq (Tr.leC 0 (ptr b3 0 :: rowWt c (back0 c)) rfl ⟨Pr.le_refl _, Pr.le_refl _, Pr.le_refl _, Pr.le_refl _, Pr.le_refl _, Pr.le_refl _, Pr.le_refl _, Pr.le_refl _, Pr.le_refl _, Pr.le_refl _, Pr.le_refl _, Pr.le_refl _, Pr.le_refl _, Pr.le_refl _, Pr.le_refl _, Pr.le_refl _, nil_slice 15, trivial⟩ (Tr.regOne mixed 5 (by kernel_rfl) (ChOne.op rfl rfl (by decide) (ok_call rfl (w_kinds) trivial) (ChOne.op rfl rfl (by decide) (kfa rfl fo49_1 rfl rfl) (ChOne.op rfl rfl (by decide) (kl1 rfl one3 rfl) (ChOne.op rfl rfl (by decide) (ok_index1 rfl Tryz.underlying149 one148 sz148 (vl rfl) (vl rfl) (by omega) (by omega) hkp) (ChOne.op rfl rfl (by decide) (ok_move rfl (vl rfl)) ?_))))))))))))
 refine ChOne.turn _ rfl (by decide) (turn_callv _ rfl rfl (vl rfl) (hm _ _) ⟨ke rfl, trivial⟩ ((perm_at (j := 0) rfl).trans (List.Perm.cons _ ((perm_at (j := 0) rfl).trans (List.Perm.cons _ (List.Perm.refl _)))))) ?_
 refine cm rfl (Ch.nil (Fin.go (Tr.seq (Tr.reg0 (cm rfl (co rfl (ki rfl rfl rfl rfl) (Ch.nil (Fin.go (wk6 4 5 7 8 9 45 rfl ?_)))))))))
 refine Tr.cn rfl ?_ ?_ <;> intro h5 q5
 exact absurd h5 (by decide)
 refine Tr.skip (Fin.go (Tr.seq (Tr.seq (Tr.reg0 (co rfl (ok_rd 1 rfl (rd_loadA rfl agg35 sz35 (vl rfl) rfl rfl)) ?_)))))
 refine co rfl (ok_call rfl (w_ECheck (e := e2) hf2) ⟨ke rfl, trivial⟩) ?_
 refine co rfl (ki rfl rfl rfl rfl) (Ch.nil (Fin.go ?_))
 refine Tr.cn rfl ?_ ?_ <;> intro h6 q6
 exfalso; rw [if_pos hce2] at h6; exact absurd h6 (by decide)
 refine Tr.skip (Fin.go (Tr.seq (Tr.regX mixed [some (0, 1, false, 0), none, none, none, some (0, 0, false, 0), none, some (0, 3, true, 0), some (0, 2, true, 0), none] (by kernel_rfl) (xrd 1 rfl rfl (rd_loadA rfl agg35 sz35 (vl rfl) rfl rfl) (xm rfl (xo rfl (fun _ => okp_nilCheck rfl (vl rfl)) (xo rfl (fun _ => okp_fieldAddr rfl fo147_2 (vl rfl)) (xrd 0 rfl rfl (rd_loadA rfl agg49 sz49 (vl rfl) rfl rfl) ?_))))))))
 refine xo rfl (fun _ => ok_call rfl (w_CopyC (c := b) hbk) ⟨ke rfl, trivial⟩) ?_
 refine Cx.ef0 3 rfl rfl (ef_store rfl rfl (vl rfl) (VL.le (vl rfl) (agg_cellsP _)) sz35 rfl (by exact Nat.le_of_ble_eq_true rfl) rfl) (Cx.ef0 2 rfl rfl (ef_store rfl rfl (vl rfl) (VL.le (vl rfl) (agg_cellsP _)) sz49 rfl (by exact Nat.le_of_ble_eq_true rfl) rfl) (xm rfl ?_))
 refine Cx.nil ⟨rfl, ?_⟩
 refine FinX.done (AllC.cons (AllC.cons (AllC.cons (AllC.cons (AllC.map _))))) (Fin.go (wk3 4 5 6 rfl (Tr.ret (Fin.retX3 rfl (RVal.cell 3 rfl rfl agg35 sz35 rfl (Pr.le_refl _)) (RVal.cell 2 rfl rfl agg49 sz49 rfl (Pr.le_refl _)) (RVal.tmp rfl (Pr.le_refl _)) ?_))))
 refine tup_le ⟨?_, ?_, ?_, trivial⟩
 · exact Pr.le_refl _
 · exact Pr.le_refl _
 · exact Pr.le_refl _
set_option maxRecDepth 20000 in
set_option maxHeartbeats 1000000 in
theorem w_donezV {e e2 : Ept} {c b : Chg} {fk : Nat} {err : Int} (hf : e.fits) (hsm : e.small) (hce : eptB e = true) (hk : 1 ≤ c.kind ∧ c.kind ≤ 12) (hlean : leanB c = true) (hkp : kindsP[c.kind.toNat]? = some (fn (.func fk) [])) (hbk : b.idn.small) (hf2 : e2.fits) (hce2 : eptB e2 = false) (hm : ∀ (wb ob : Nat), FunD Tryz.prog fk [ptr wb 0] [resW wb ob c (back0 c), resO ob e (ints e.suites) (idns e.ids) (ints e.anchors) (ints e.hashes)] (int 0) [resW wb ob c b, cellsRes true ob 35 (rowEp e2)]) : Fun Tryz.prog 64 [agg (rowEp e), agg (rowChg c)] (tup [agg (rowEp zeroEp), agg (rowChg zeroChg), int 18]) := by
 refine Fun.of Tryz.func64 rfl rfl (by exact Nat.le_of_ble_eq_true rfl) fun M0 w0 => ?_
 refine Tr.seq (Tr.regT (tp rfl (ok_box rfl (VL.le (vl rfl) (agg_cellsP _))) (tp rfl (ok_box rfl (VL.le (vl rfl) (agg_cellsP _))) ?_)))
 refine TO.alloc rfl rfl (by decide) rfl z35 zo35 (fun b1 => ?_)
 refine TO.alloc rfl rfl (by decide) rfl z49 zo49 (fun b2 => ?_)
 refine tm rfl (TO.nil (Fin.go (Tr.seq (Tr.seq (Tr.reg0 (co rfl (ok_loadA rfl agg35 sz35 (vl rfl) rfl rfl) (co rfl (ok_call rfl (w_ECheck hf) ⟨ke rfl, trivial⟩) (co rfl (ki rfl rfl rfl rfl) (Ch.nil (Fin.go ?_))))))))))
 refine Tr.cn rfl ?_ ?_ <;> intro h1 q1
 exfalso; rw [if_pos hce] at h1; exact absurd h1 (by decide)
 refine Tr.skip (Fin.go (Tr.seq (Tr.seq (Tr.reg0 (co rfl (kfa rfl fo49_1 rfl rfl) (co rfl (kl1 rfl one3 rfl) (co rfl (ki rfl rfl rfl rfl) (cm rfl ?_))))))))
 refine Ch.cs 18 rfl ?_ ?_ <;> intro h2 q2
 exfalso; have := q2; omega
 refine cy h2 rfl (kfa rfl fo49_1 rfl rfl) (cy h2 rfl (kl1 rfl one3 rfl) (cy h2 rfl (ki rfl rfl rfl rfl) (co rfl (kpf rfl rfl h2 rfl) (cm rfl ?_))))
 refine Ch.cs 23 rfl ?_ ?_ <;> intro h3 q3
 exfalso; have := q3; omega
 refine cy h3 rfl (ok_loadA rfl agg49 sz49 (vl rfl) rfl rfl) ?_
 refine cy h3 rfl (ok_call rfl (w_lean (c := c)) ⟨ke rfl, trivial⟩) ?_
 refine cy h3 rfl (ok_not rfl (vl rfl)) (co rfl (kpf rfl rfl h3 rfl) (Ch.nil (Fin.go (wk5 2 3 4 5 27 rfl ?_))))
 refine Tr.cn rfl ?_ ?_ <;> intro h4 q4
 rw [hlean] at h4; exact absurd h4 (by decide)
 refine Tr.skip (Fin.go (Tr.seq (Tr.regT (tp rfl (ok_loadA rfl agg35 sz35 (vl rfl) rfl rfl) (tp rfl (ok_call rfl (w_CopyEz hsm) ⟨ke rfl, trivial⟩) ?_)))))
 refine TO.alloc rfl rfl (by decide) rfl z35 zo35 (fun b3 => ?_)
 refine TO.store_all 0 rfl rfl rfl (vl rfl) (VL.le (vl rfl) (agg_cellsP _)) rfl sz35 rfl rfl (TO.nil (Fin.go (Tr.seq (Tr.regT (tp rfl (ok_loadA rfl agg49 sz49 (vl rfl) rfl rfl) (tp rfl (kfa rfl fo49_0 rfl rfl) (tp rfl (kl1 rfl one3 rfl) (tp rfl (ok_build (rows := [(0, [_])]) rfl bl49 zo49 ⟨⟨rfl, (VL.le (vl rfl) (one_cellsP _))⟩, trivial⟩ rfl) (tp rfl (ok_build (rows := [(0, [_]), (1, _), (2, _)]) rfl bl147 zo147 ⟨⟨rfl, (VL.le (vl rfl) (one_cellsP _))⟩, ⟨⟨rfl, (VL.le (vl rfl) (agg_cellsP _))⟩, ⟨⟨rfl, (VL.le (vl rfl) (agg_cellsP _))⟩, trivial⟩⟩⟩ rfl) ?_)))))))))
 refine TO.boxm rfl rfl (by decide) rfl (VL.le (vl rfl) (agg_cellsP _)) (fun b4 => ?_)
 refine tm rfl (TO.nil (Fin.go (wk5 3 4 5 7 8 rfl (Tr.seq (Tr.seq (Tr.leC 0 (ptr b3 0 :: rowWt c (back0 c)) rfl ⟨Pr.le_refl _, Pr.le_refl _, Pr.le_refl _, Pr.le_refl _, Pr.le_refl _, Pr.le_refl _, Pr.le_refl _, Pr.le_refl _, Pr.le_refl _, Pr.le_refl _, Pr.le_refl _, Pr.le_refl _, Pr.le_refl _, Pr.le_refl _, Pr.le_refl _, Pr.le_refl _, nil_slice 15, trivial⟩ (Tr.regOne mixed 5 (by kernel_rfl) (ChOne.op rfl rfl (by decide) (ok_call rfl (w_kinds) trivial) (ChOne.op rfl rfl (by decide) (kfa rfl fo49_1 rfl rfl) (ChOne.op rfl rfl (by decide) (kl1 rfl one3 rfl) (ChOne.op rfl rfl (by decide) (ok_index1 rfl Tryz.underlying149 one148 sz148 (vl rfl) (vl rfl) (by omega) (by omega) hkp) (ChOne.op rfl rfl (by decide) (ok_move rfl (vl rfl)) ?_))))))))))))
 refine ChOne.turn _ rfl (by decide) (turn_callv _ rfl rfl (vl rfl) (hm _ _) ⟨ke rfl, trivial⟩ ((perm_at (j := 0) rfl).trans (List.Perm.cons _ ((perm_at (j := 0) rfl).trans (List.Perm.cons _ (List.Perm.refl _)))))) ?_
 refine cm rfl (Ch.nil (Fin.go (Tr.seq (Tr.reg0 (cm rfl (co rfl (ki rfl rfl rfl rfl) (Ch.nil (Fin.go (wk6 4 5 7 8 9 45 rfl ?_)))))))))
 refine Tr.cn rfl ?_ ?_ <;> intro h5 q5
 exact absurd h5 (by decide)
 refine Tr.skip (Fin.go (Tr.seq (Tr.seq (Tr.reg0 (co rfl (ok_rd 1 rfl (rd_loadA rfl agg35 sz35 (vl rfl) rfl rfl)) ?_)))))
 refine co rfl (ok_call rfl (w_ECheck (e := e2) hf2) ⟨ke rfl, trivial⟩) ?_
 refine co rfl (ki rfl rfl rfl rfl) (Ch.nil (Fin.go ?_))
 refine Tr.cn rfl ?_ ?_ <;> intro h6 q6
 refine Tr.seq (Tr.regT (tp rfl (ok_build (rows := []) rfl bl35 zo35 trivial rfl) (tp rfl (ok_build (rows := []) rfl bl49 zo49 trivial rfl) (TO.store_all 3 rfl rfl rfl (vl rfl) (VL.le (vl rfl) (agg_cellsP _)) rfl sz35 rfl rfl (TO.store_all 2 rfl rfl rfl (vl rfl) (VL.le (vl rfl) (agg_cellsP _)) rfl sz49 rfl rfl (tm rfl (TO.nil (Fin.go (Tr.ret (Fin.then_ret (Fin.retX3 rfl (RVal.cell 3 rfl rfl agg35 sz35 rfl (Pr.le_refl _)) (RVal.cell 2 rfl rfl agg49 sz49 rfl (Pr.le_refl _)) (RVal.tmp rfl (Pr.le_refl _)) ?_)))))))))))
 refine tup_le ⟨?_, ?_, ?_, trivial⟩
 · exact agg_le ⟨Pr.le_refl _, Pr.le_refl _, Pr.le_refl _, nil_slice 1, Pr.le_refl _, nil_slice 4, nil_slice 1, nil_slice 1, Pr.le_refl _, trivial⟩
 · exact agg_le ⟨Pr.le_refl _, Pr.le_refl _, Pr.le_refl _, Pr.le_refl _, Pr.le_refl _, Pr.le_refl _, Pr.le_refl _, nil_slice 15, trivial⟩
 · exact Pr.le_refl _
 exfalso; rw [if_neg (by rw [hce2]; decide)] at h6; exact absurd h6 (by decide)
set_option maxRecDepth 20000 in
theorem w_done0 {e : Ept} {c : Chg} (hf : e.fits) (hce : eptB e = false) : Fun Tryz.prog 64 [agg (rowEp e), agg (rowChg c)] (tup [agg (rowEp zeroEp), agg (rowChg zeroChg), int 19]) := by
 refine Fun.of Tryz.func64 rfl rfl (by exact Nat.le_of_ble_eq_true rfl) fun M0 w0 => ?_
 refine Tr.seq (Tr.regT (tp rfl (ok_box rfl (VL.le (vl rfl) (agg_cellsP _))) (tp rfl (ok_box rfl (VL.le (vl rfl) (agg_cellsP _))) ?_)))
 refine TO.alloc rfl rfl (by decide) rfl z35 zo35 (fun b1 => ?_)
 refine TO.alloc rfl rfl (by decide) rfl z49 zo49 (fun b2 => ?_)
 refine tm rfl (TO.nil (Fin.go (Tr.seq (Tr.seq (Tr.reg0 (co rfl (ok_loadA rfl agg35 sz35 (vl rfl) rfl rfl) (co rfl (ok_call rfl (w_ECheck hf) ⟨ke rfl, trivial⟩) (co rfl (ki rfl rfl rfl rfl) (Ch.nil (Fin.go ?_))))))))))
 refine Tr.cn rfl ?_ ?_ <;> intro h1 q1
 refine Tr.seq (Tr.regT (tp rfl (ok_build (rows := []) rfl bl35 zo35 trivial rfl) (tp rfl (ok_build (rows := []) rfl bl49 zo49 trivial rfl) (TO.store_all 1 rfl rfl rfl (vl rfl) (VL.le (vl rfl) (agg_cellsP _)) rfl sz35 rfl rfl (TO.store_all 0 rfl rfl rfl (vl rfl) (VL.le (vl rfl) (agg_cellsP _)) rfl sz49 rfl rfl (tm rfl (TO.nil (Fin.go (Tr.ret (Fin.then_ret (Fin.retX3 rfl (RVal.cell 1 rfl rfl agg35 sz35 rfl (Pr.le_refl _)) (RVal.cell 0 rfl rfl agg49 sz49 rfl (Pr.le_refl _)) (RVal.tmp rfl (Pr.le_refl _)) ?_)))))))))))
 refine tup_le ⟨?_, ?_, ?_, trivial⟩
 · exact agg_le ⟨Pr.le_refl _, Pr.le_refl _, Pr.le_refl _, nil_slice 1, Pr.le_refl _, nil_slice 4, nil_slice 1, nil_slice 1, Pr.le_refl _, trivial⟩
 · exact agg_le ⟨Pr.le_refl _, Pr.le_refl _, Pr.le_refl _, Pr.le_refl _, Pr.le_refl _, Pr.le_refl _, Pr.le_refl _, nil_slice 15, trivial⟩
 · exact Pr.le_refl _
 exfalso; rw [if_neg (by rw [hce]; decide)] at h1; exact absurd h1 (by decide)
set_option maxRecDepth 20000 in
theorem w_done1 {e : Ept} {c : Chg} (hf : e.fits) (hce : eptB e = true) (hk : ¬ ((1 ≤ c.kind ∧ c.kind ≤ 12) ∧ leanB c = true)) : Fun Tryz.prog 64 [agg (rowEp e), agg (rowChg c)] (tup [agg (rowEp zeroEp), agg (rowChg zeroChg), int 40]) := by
 refine Fun.of Tryz.func64 rfl rfl (by exact Nat.le_of_ble_eq_true rfl) fun M0 w0 => ?_
 refine Tr.seq (Tr.regT (tp rfl (ok_box rfl (VL.le (vl rfl) (agg_cellsP _))) (tp rfl (ok_box rfl (VL.le (vl rfl) (agg_cellsP _))) ?_)))
 refine TO.alloc rfl rfl (by decide) rfl z35 zo35 (fun b1 => ?_)
 refine TO.alloc rfl rfl (by decide) rfl z49 zo49 (fun b2 => ?_)
 refine tm rfl (TO.nil (Fin.go (Tr.seq (Tr.seq (Tr.reg0 (co rfl (ok_loadA rfl agg35 sz35 (vl rfl) rfl rfl) (co rfl (ok_call rfl (w_ECheck hf) ⟨ke rfl, trivial⟩) (co rfl (ki rfl rfl rfl rfl) (Ch.nil (Fin.go ?_))))))))))
 refine Tr.cn rfl ?_ ?_ <;> intro h1 q1
 exfalso; rw [if_pos hce] at h1; exact absurd h1 (by decide)
 refine Tr.skip (Fin.go (Tr.seq (Tr.seq (Tr.reg0 (co rfl (kfa rfl fo49_1 rfl rfl) (co rfl (kl1 rfl one3 rfl) (co rfl (ki rfl rfl rfl rfl) (cm rfl ?_))))))))
 refine Ch.cs 18 rfl ?_ ?_ <;> intro h2 q2
 have hq18 := q2
 refine cnf h2 rfl (cnf h2 rfl (cnf h2 rfl (co rfl (kpt rfl rfl h2 rfl) (cm rfl (cnd rfl rfl (cnd rfl rfl (cnd rfl rfl (co rfl (kpt rfl rfl rfl rfl) (Ch.nil (Fin.go (wk5 2 3 4 5 27 rfl (Tr.cond rfl (fun _ => ?_) (fun h => nomatch h)))))))))))))
 refine Tr.seq (Tr.regT (tp rfl (ok_build (rows := []) rfl bl35 zo35 trivial rfl) (tp rfl (ok_build (rows := []) rfl bl49 zo49 trivial rfl) (TO.store_all 1 rfl rfl rfl (vl rfl) (VL.le (vl rfl) (agg_cellsP _)) rfl sz35 rfl rfl (TO.store_all 0 rfl rfl rfl (vl rfl) (VL.le (vl rfl) (agg_cellsP _)) rfl sz49 rfl rfl (tm rfl (TO.nil (Fin.go (Tr.ret (Fin.then_ret (Fin.retX3 rfl (RVal.cell 1 rfl rfl agg35 sz35 rfl (Pr.le_refl _)) (RVal.cell 0 rfl rfl agg49 sz49 rfl (Pr.le_refl _)) (RVal.tmp rfl (Pr.le_refl _)) ?_)))))))))))
 refine tup_le ⟨?_, ?_, ?_, trivial⟩
 · exact agg_le ⟨Pr.le_refl _, Pr.le_refl _, Pr.le_refl _, nil_slice 1, Pr.le_refl _, nil_slice 4, nil_slice 1, nil_slice 1, Pr.le_refl _, trivial⟩
 · exact agg_le ⟨Pr.le_refl _, Pr.le_refl _, Pr.le_refl _, Pr.le_refl _, Pr.le_refl _, Pr.le_refl _, Pr.le_refl _, nil_slice 15, trivial⟩
 · exact Pr.le_refl _
 refine cy h2 rfl (kfa rfl fo49_1 rfl rfl) (cy h2 rfl (kl1 rfl one3 rfl) (cy h2 rfl (ki rfl rfl rfl rfl) (co rfl (kpf rfl rfl h2 rfl) (cm rfl ?_))))
 refine Ch.cs 23 rfl ?_ ?_ <;> intro h3 q3
 have hq23 := q3
 refine cnf h3 rfl (cnf h3 rfl (cnf h3 rfl (co rfl (kpt rfl rfl h3 rfl) (Ch.nil (Fin.go (wk5 2 3 4 5 27 rfl (Tr.cond rfl (fun _ => ?_) (fun h => nomatch h))))))))
 refine Tr.seq (Tr.regT (tp rfl (ok_build (rows := []) rfl bl35 zo35 trivial rfl) (tp rfl (ok_build (rows := []) rfl bl49 zo49 trivial rfl) (TO.store_all 1 rfl rfl rfl (vl rfl) (VL.le (vl rfl) (agg_cellsP _)) rfl sz35 rfl rfl (TO.store_all 0 rfl rfl rfl (vl rfl) (VL.le (vl rfl) (agg_cellsP _)) rfl sz49 rfl rfl (tm rfl (TO.nil (Fin.go (Tr.ret (Fin.then_ret (Fin.retX3 rfl (RVal.cell 1 rfl rfl agg35 sz35 rfl (Pr.le_refl _)) (RVal.cell 0 rfl rfl agg49 sz49 rfl (Pr.le_refl _)) (RVal.tmp rfl (Pr.le_refl _)) ?_)))))))))))
 refine tup_le ⟨?_, ?_, ?_, trivial⟩
 · exact agg_le ⟨Pr.le_refl _, Pr.le_refl _, Pr.le_refl _, nil_slice 1, Pr.le_refl _, nil_slice 4, nil_slice 1, nil_slice 1, Pr.le_refl _, trivial⟩
 · exact agg_le ⟨Pr.le_refl _, Pr.le_refl _, Pr.le_refl _, Pr.le_refl _, Pr.le_refl _, Pr.le_refl _, Pr.le_refl _, nil_slice 15, trivial⟩
 · exact Pr.le_refl _
 have hq23 := q3
 refine cy h3 rfl (ok_loadA rfl agg49 sz49 (vl rfl) rfl rfl) ?_
 refine cy h3 rfl (ok_call rfl (w_lean (c := c)) ⟨ke rfl, trivial⟩) ?_
 refine cy h3 rfl (ok_not rfl (vl rfl)) (co rfl (kpf rfl rfl h3 rfl) (Ch.nil (Fin.go (wk5 2 3 4 5 27 rfl ?_))))
 refine Tr.cn rfl ?_ ?_ <;> intro h4 q4
 refine Tr.seq (Tr.regT (tp rfl (ok_build (rows := []) rfl bl35 zo35 trivial rfl) (tp rfl (ok_build (rows := []) rfl bl49 zo49 trivial rfl) (TO.store_all 1 rfl rfl rfl (vl rfl) (VL.le (vl rfl) (agg_cellsP _)) rfl sz35 rfl rfl (TO.store_all 0 rfl rfl rfl (vl rfl) (VL.le (vl rfl) (agg_cellsP _)) rfl sz49 rfl rfl (tm rfl (TO.nil (Fin.go (Tr.ret (Fin.then_ret (Fin.retX3 rfl (RVal.cell 1 rfl rfl agg35 sz35 rfl (Pr.le_refl _)) (RVal.cell 0 rfl rfl agg49 sz49 rfl (Pr.le_refl _)) (RVal.tmp rfl (Pr.le_refl _)) ?_)))))))))))
 refine tup_le ⟨?_, ?_, ?_, trivial⟩
 · exact agg_le ⟨Pr.le_refl _, Pr.le_refl _, Pr.le_refl _, nil_slice 1, Pr.le_refl _, nil_slice 4, nil_slice 1, nil_slice 1, Pr.le_refl _, trivial⟩
 · exact agg_le ⟨Pr.le_refl _, Pr.le_refl _, Pr.le_refl _, Pr.le_refl _, Pr.le_refl _, Pr.le_refl _, Pr.le_refl _, nil_slice 15, trivial⟩
 · exact Pr.le_refl _
 exfalso; apply hk; simp_all
end Go.Proofs.YtflodcidhlmaaaaGreat
namespace Go.Proofs.YtflodcidhlmaaaaGreat
open Go Go.RowKit Cp

abbrev sIdx (e : Ept) (c : Chg) : Int := idx (fun y => c.number == y) e.suites
/-- What the method of a kind answers: an error, or the endpoint and what leads back. -/
def stepR (e : Ept) (c : Chg) : Except Int (Ept × Chg) :=
  if c.kind = 1 then
    if ¬ (0 ≤ c.at_ ∧ c.at_ ≤ (e.suites.length : Nat)) then .error 2
    else if (e.suites.any fun y => c.number == y) = true then .error 41
    else .ok ({ e with suites := e.suites.take c.at_.toNat ++ [c.number] ++ e.suites.drop c.at_.toNat }, ⟨c.endpoint, 2, c.number, 0, zeroId⟩)
  else if c.kind = 2 then
    if sIdx e c < 0 then .error 41 else .ok ({ e with suites := e.suites.eraseIdx (sIdx e c).toNat }, ⟨c.endpoint, 1, c.number, sIdx e c, zeroId⟩)
  else if c.kind = 3 then
    if e.most = c.number then .error 41 else .ok ({ e with most := c.number }, ⟨c.endpoint, c.kind, e.most, 0, zeroId⟩)
  else if c.kind = 4 then
    if e.least = c.number then .error 41 else .ok ({ e with least := c.number }, ⟨c.endpoint, c.kind, e.least, 0, zeroId⟩)
  else if c.kind = 5 then
    if ¬ (0 ≤ c.at_ ∧ c.at_ ≤ (e.ids.length : Nat)) then .error 2
    else if 0 ≤ keyIdx c.idn.keyId e.ids then .error 41
    else .ok ({ e with ids := e.ids.take c.at_.toNat ++ [c.idn] ++ e.ids.drop c.at_.toNat }, ⟨c.endpoint, 6, c.idn.keyId, 0, zeroId⟩)
  else if c.kind = 6 then
    match e.ids[(keyIdx c.number e.ids).toNat]? with
    | none => .error 41
    | some x =>
      if keyIdx c.number e.ids < 0 then .error 41
      else if ((e.ids.drop (keyIdx c.number e.ids + 1).toNat).any fun x => x.keyId == c.number) = true then .error 5
      else .ok ({ e with ids := e.ids.eraseIdx (keyIdx c.number e.ids).toNat }, ⟨c.endpoint, 5, 0, keyIdx c.number e.ids, x⟩)
  else if c.kind = 7 then
    if hasX e.anchors c.number = true then .error 41 else .ok ({ e with anchors := insX e.anchors c.number }, ⟨c.endpoint, 8, c.number, 0, zeroId⟩)
  else if c.kind = 8 then
    if hasX e.anchors c.number = true then .ok ({ e with anchors := e.anchors.eraseIdx (posI e.anchors c.number) }, ⟨c.endpoint, 7, c.number, 0, zeroId⟩) else .error 41
  else if c.kind = 9 then
    if hasX e.hashes c.number = true then .error 41 else .ok ({ e with hashes := insX e.hashes c.number }, ⟨c.endpoint, 10, c.number, 0, zeroId⟩)
  else if c.kind = 10 then
    if hasX e.hashes c.number = true then .ok ({ e with hashes := e.hashes.eraseIdx (posI e.hashes c.number) }, ⟨c.endpoint, 9, c.number, 0, zeroId⟩) else .error 41
  else if c.kind = 11 then
    if ¬ (0 ≤ c.number ∧ c.number ≤ 1) then .error 2
    else if bitI e.fall = c.number then .error 41 else .ok ({ e with fall := (c.number == 1) }, ⟨c.endpoint, c.kind, bitI e.fall, 0, zeroId⟩)
  else
    if ¬ (0 ≤ c.number ∧ c.number ≤ 1) then .error 2
    else if bitI e.own = c.number then .error 41 else .ok ({ e with own := (c.number == 1) }, ⟨c.endpoint, c.kind, bitI e.own, 0, zeroId⟩)
def okCh (c : Chg) : Prop := (1 ≤ c.kind ∧ c.kind ≤ 12) ∧ leanB c = true
instance (c : Chg) : Decidable (okCh c) := inferInstanceAs (Decidable (_ ∧ _))
def doneR (e : Ept) (c : Chg) : Ept × Chg × Int :=
  if eptB e = false then (zeroEp, zeroChg, 19)
  else if ¬ okCh c then (zeroEp, zeroChg, 40)
  else match stepR e c with
    | .error f => (zeroEp, zeroChg, f)
    | .ok (e2, b) => if eptB e2 = true then (e2, b, 0) else (zeroEp, zeroChg, 18)
theorem stepR_1 {e : Ept} {c : Chg} (h : c.kind = 1) : stepR e c =
    (
    if ¬ (0 ≤ c.at_ ∧ c.at_ ≤ (e.suites.length : Nat)) then .error 2
    else if (e.suites.any fun y => c.number == y) = true then .error 41
    else .ok ({ e with suites := e.suites.take c.at_.toNat ++ [c.number] ++ e.suites.drop c.at_.toNat }, ⟨c.endpoint, 2, c.number, 0, zeroId⟩)) := by
  unfold stepR; rw [if_pos h]
theorem stepR_2 {e : Ept} {c : Chg} (h : c.kind = 2) : stepR e c =
    (
    if sIdx e c < 0 then .error 41 else .ok ({ e with suites := e.suites.eraseIdx (sIdx e c).toNat }, ⟨c.endpoint, 1, c.number, sIdx e c, zeroId⟩)) := by
  unfold stepR; rw [if_neg (by rw [h]; decide)]; rw [if_pos h]
theorem stepR_3 {e : Ept} {c : Chg} (h : c.kind = 3) : stepR e c =
    (
    if e.most = c.number then .error 41 else .ok ({ e with most := c.number }, ⟨c.endpoint, c.kind, e.most, 0, zeroId⟩)) := by
  unfold stepR; rw [if_neg (by rw [h]; decide)]; rw [if_neg (by rw [h]; decide)]; rw [if_pos h]
theorem stepR_4 {e : Ept} {c : Chg} (h : c.kind = 4) : stepR e c =
    (
    if e.least = c.number then .error 41 else .ok ({ e with least := c.number }, ⟨c.endpoint, c.kind, e.least, 0, zeroId⟩)) := by
  unfold stepR; rw [if_neg (by rw [h]; decide)]; rw [if_neg (by rw [h]; decide)]; rw [if_neg (by rw [h]; decide)]; rw [if_pos h]
theorem stepR_5 {e : Ept} {c : Chg} (h : c.kind = 5) : stepR e c =
    (
    if ¬ (0 ≤ c.at_ ∧ c.at_ ≤ (e.ids.length : Nat)) then .error 2
    else if 0 ≤ keyIdx c.idn.keyId e.ids then .error 41
    else .ok ({ e with ids := e.ids.take c.at_.toNat ++ [c.idn] ++ e.ids.drop c.at_.toNat }, ⟨c.endpoint, 6, c.idn.keyId, 0, zeroId⟩)) := by
  unfold stepR; rw [if_neg (by rw [h]; decide)]; rw [if_neg (by rw [h]; decide)]; rw [if_neg (by rw [h]; decide)]; rw [if_neg (by rw [h]; decide)]; rw [if_pos h]
theorem stepR_6 {e : Ept} {c : Chg} (h : c.kind = 6) : stepR e c =
    (
    match e.ids[(keyIdx c.number e.ids).toNat]? with
    | none => .error 41
    | some x =>
      if keyIdx c.number e.ids < 0 then .error 41
      else if ((e.ids.drop (keyIdx c.number e.ids + 1).toNat).any fun x => x.keyId == c.number) = true then .error 5
      else .ok ({ e with ids := e.ids.eraseIdx (keyIdx c.number e.ids).toNat }, ⟨c.endpoint, 5, 0, keyIdx c.number e.ids, x⟩)) := by
  unfold stepR; rw [if_neg (by rw [h]; decide)]; rw [if_neg (by rw [h]; decide)]; rw [if_neg (by rw [h]; decide)]; rw [if_neg (by rw [h]; decide)]; rw [if_neg (by rw [h]; decide)]; rw [if_pos h]
theorem stepR_7 {e : Ept} {c : Chg} (h : c.kind = 7) : stepR e c =
    (
    if hasX e.anchors c.number = true then .error 41 else .ok ({ e with anchors := insX e.anchors c.number }, ⟨c.endpoint, 8, c.number, 0, zeroId⟩)) := by
  unfold stepR; rw [if_neg (by rw [h]; decide)]; rw [if_neg (by rw [h]; decide)]; rw [if_neg (by rw [h]; decide)]; rw [if_neg (by rw [h]; decide)]; rw [if_neg (by rw [h]; decide)]; rw [if_neg (by rw [h]; decide)]; rw [if_pos h]
theorem stepR_8 {e : Ept} {c : Chg} (h : c.kind = 8) : stepR e c =
    (
    if hasX e.anchors c.number = true then .ok ({ e with anchors := e.anchors.eraseIdx (posI e.anchors c.number) }, ⟨c.endpoint, 7, c.number, 0, zeroId⟩) else .error 41) := by
  unfold stepR; rw [if_neg (by rw [h]; decide)]; rw [if_neg (by rw [h]; decide)]; rw [if_neg (by rw [h]; decide)]; rw [if_neg (by rw [h]; decide)]; rw [if_neg (by rw [h]; decide)]; rw [if_neg (by rw [h]; decide)]; rw [if_neg (by rw [h]; decide)]; rw [if_pos h]
theorem stepR_9 {e : Ept} {c : Chg} (h : c.kind = 9) : stepR e c =
    (
    if hasX e.hashes c.number = true then .error 41 else .ok ({ e with hashes := insX e.hashes c.number }, ⟨c.endpoint, 10, c.number, 0, zeroId⟩)) := by
  unfold stepR; rw [if_neg (by rw [h]; decide)]; rw [if_neg (by rw [h]; decide)]; rw [if_neg (by rw [h]; decide)]; rw [if_neg (by rw [h]; decide)]; rw [if_neg (by rw [h]; decide)]; rw [if_neg (by rw [h]; decide)]; rw [if_neg (by rw [h]; decide)]; rw [if_neg (by rw [h]; decide)]; rw [if_pos h]
theorem stepR_10 {e : Ept} {c : Chg} (h : c.kind = 10) : stepR e c =
    (
    if hasX e.hashes c.number = true then .ok ({ e with hashes := e.hashes.eraseIdx (posI e.hashes c.number) }, ⟨c.endpoint, 9, c.number, 0, zeroId⟩) else .error 41) := by
  unfold stepR; rw [if_neg (by rw [h]; decide)]; rw [if_neg (by rw [h]; decide)]; rw [if_neg (by rw [h]; decide)]; rw [if_neg (by rw [h]; decide)]; rw [if_neg (by rw [h]; decide)]; rw [if_neg (by rw [h]; decide)]; rw [if_neg (by rw [h]; decide)]; rw [if_neg (by rw [h]; decide)]; rw [if_neg (by rw [h]; decide)]; rw [if_pos h]
theorem stepR_11 {e : Ept} {c : Chg} (h : c.kind = 11) : stepR e c =
    (
    if ¬ (0 ≤ c.number ∧ c.number ≤ 1) then .error 2
    else if bitI e.fall = c.number then .error 41 else .ok ({ e with fall := (c.number == 1) }, ⟨c.endpoint, c.kind, bitI e.fall, 0, zeroId⟩)) := by
  unfold stepR; rw [if_neg (by rw [h]; decide)]; rw [if_neg (by rw [h]; decide)]; rw [if_neg (by rw [h]; decide)]; rw [if_neg (by rw [h]; decide)]; rw [if_neg (by rw [h]; decide)]; rw [if_neg (by rw [h]; decide)]; rw [if_neg (by rw [h]; decide)]; rw [if_neg (by rw [h]; decide)]; rw [if_neg (by rw [h]; decide)]; rw [if_neg (by rw [h]; decide)]; rw [if_pos h]
theorem stepR_12 {e : Ept} {c : Chg} (h : c.kind = 12) : stepR e c =
    (
    if ¬ (0 ≤ c.number ∧ c.number ≤ 1) then .error 2
    else if bitI e.own = c.number then .error 41 else .ok ({ e with own := (c.number == 1) }, ⟨c.endpoint, c.kind, bitI e.own, 0, zeroId⟩)) := by
  unfold stepR; rw [if_neg (by rw [h]; decide)]; rw [if_neg (by rw [h]; decide)]; rw [if_neg (by rw [h]; decide)]; rw [if_neg (by rw [h]; decide)]; rw [if_neg (by rw [h]; decide)]; rw [if_neg (by rw [h]; decide)]; rw [if_neg (by rw [h]; decide)]; rw [if_neg (by rw [h]; decide)]; rw [if_neg (by rw [h]; decide)]; rw [if_neg (by rw [h]; decide)]; rw [if_neg (by rw [h]; decide)]
theorem doneR_err {e : Ept} {c : Chg} {f : Int} (h : eptB e = true) (hc : okCh c) (hs : stepR e c = .error f) : doneR e c = (zeroEp, zeroChg, f) := by
  unfold doneR; rw [if_neg (by rw [h]; decide), if_neg (fun h => h hc), hs]
theorem doneR_ok {e : Ept} {c : Chg} {e2 : Ept} {b : Chg} (h : eptB e = true) (hc : okCh c) (hs : stepR e c = .ok (e2, b)) (h2 : eptB e2 = true) : doneR e c = (e2, b, 0) := by
  unfold doneR; rw [if_neg (by rw [h]; decide), if_neg (fun h => h hc), hs]; exact if_pos h2
theorem doneR_v {e : Ept} {c : Chg} {e2 : Ept} {b : Chg} (h : eptB e = true) (hc : okCh c) (hs : stepR e c = .ok (e2, b)) (h2 : eptB e2 = false) : doneR e c = (zeroEp, zeroChg, 18) := by
  unfold doneR; rw [if_neg (by rw [h]; decide), if_neg (fun h => h hc), hs]; exact if_neg (by rw [h2]; decide)
abbrev tupR (r : Ept × Chg × Int) : Pr := tup [agg (rowEp r.1), agg (rowChg r.2.1), int r.2.2]
structure EptOk (e : Ept) : Prop where
  name : wordB e.name = true
  least : 1 ≤ e.least
  lm : e.least ≤ e.most
  most : e.most ≤ 4
  suites : suitesB e.suites = true
  idl : e.ids.length ≤ 4
  ancl : e.anchors.length ≤ 16
  anc : ascB e.anchors = true
  hash : ascB e.hashes = true
  ids : e.ids.all idB = true
  keys : e.anchors.all keyB = true
  hsh : e.hashes.all hashB = true
theorem eptB_iff {e : Ept} : eptB e = true ↔ EptOk e := by
  unfold eptB; simp only [Bool.and_eq_true, decide_eq_true_eq]
  exact ⟨fun ⟨⟨⟨⟨⟨⟨⟨⟨a, b⟩, c⟩, d⟩, f⟩, ⟨⟨⟨g, h⟩, i⟩, j⟩⟩, k⟩, l⟩, m⟩ => ⟨a, b, c, d, f, g, h, i, j, k, l, m⟩, fun ⟨a, b, c, d, f, g, h, i, j, k, l, m⟩ => ⟨⟨⟨⟨⟨⟨⟨⟨a, b⟩, c⟩, d⟩, f⟩, ⟨⟨⟨g, h⟩, i⟩, j⟩⟩, k⟩, l⟩, m⟩⟩


theorem dn_errn {e : Ept} {c : Chg} {fk : Nat} (hf : e.fits) (hsm : e.small) (hce : eptB e = true) (hc : okCh c) (hkp : kindsP[c.kind.toNat]? = some (fn (.func fk) [])) {f : Int} (hs : stepR e c = .error f) (he : f ≠ 0) (hm : ∀ (wb ob : Nat) (v : Value), FunD Tryz.prog fk [ptr wb 0] [resW wb ob c (back0 c), resO ob e (ints e.suites) (is v) (ints e.anchors) (ints e.hashes), oweRes 47 4 (e.ids.map rowId) v] (int f) []) : Fun Tryz.prog 64 [agg (rowEp e), agg (rowChg c)] (tupR (doneR e c)) := by
  rw [doneR_err hce hc hs]; exact w_donenE (e2 := zeroEp) (b := zeroChg) hf hsm hce hc.1 hc.2 hkp he hm
theorem dn_okn {e : Ept} {c : Chg} {fk : Nat} (hf : e.fits) (hsm : e.small) (hce : eptB e = true) (hc : okCh c) (hkp : kindsP[c.kind.toNat]? = some (fn (.func fk) [])) {e2 : Ept} {b : Chg} (hs : stepR e c = .ok (e2, b)) (hbk : b.idn.small) (hf2 : e2.fits) (hm : ∀ (wb ob : Nat) (v : Value), FunD Tryz.prog fk [ptr wb 0] [resW wb ob c (back0 c), resO ob e (ints e.suites) (is v) (ints e.anchors) (ints e.hashes), oweRes 47 4 (e.ids.map rowId) v] (int 0) [resW wb ob c b, cellsRes true ob 35 (rowEp e2)]) : Fun Tryz.prog 64 [agg (rowEp e), agg (rowChg c)] (tupR (doneR e c)) := by
  cases h2 : eptB e2 with
  | true => rw [doneR_ok hce hc hs h2]; exact w_donenY (err := 0) hf hsm hce hc.1 hc.2 hkp hbk hf2 h2 hm
  | false => rw [doneR_v hce hc hs h2]; exact w_donenV (err := 0) hf hsm hce hc.1 hc.2 hkp hbk hf2 h2 hm


theorem dn_errs {e : Ept} {c : Chg} {fk : Nat} (hf : e.fits) (hsm : e.small) (hce : eptB e = true) (hc : okCh c) (hkp : kindsP[c.kind.toNat]? = some (fn (.func fk) [])) {f : Int} (hs : stepR e c = .error f) (he : f ≠ 0) (hm : ∀ (wb ob : Nat) (v : Value), FunD Tryz.prog fk [ptr wb 0] [resW wb ob c (back0 c), resO ob e (is v) (idns e.ids) (ints e.anchors) (ints e.hashes), oweRes 3 1 (e.suites.map fun n => [int n]) v] (int f) []) : Fun Tryz.prog 64 [agg (rowEp e), agg (rowChg c)] (tupR (doneR e c)) := by
  rw [doneR_err hce hc hs]; exact w_donesE (e2 := zeroEp) (b := zeroChg) hf hsm hce hc.1 hc.2 hkp he hm
theorem dn_oks {e : Ept} {c : Chg} {fk : Nat} (hf : e.fits) (hsm : e.small) (hce : eptB e = true) (hc : okCh c) (hkp : kindsP[c.kind.toNat]? = some (fn (.func fk) [])) {e2 : Ept} {b : Chg} (hs : stepR e c = .ok (e2, b)) (hbk : b.idn.small) (hf2 : e2.fits) (hm : ∀ (wb ob : Nat) (v : Value), FunD Tryz.prog fk [ptr wb 0] [resW wb ob c (back0 c), resO ob e (is v) (idns e.ids) (ints e.anchors) (ints e.hashes), oweRes 3 1 (e.suites.map fun n => [int n]) v] (int 0) [resW wb ob c b, cellsRes true ob 35 (rowEp e2)]) : Fun Tryz.prog 64 [agg (rowEp e), agg (rowChg c)] (tupR (doneR e c)) := by
  cases h2 : eptB e2 with
  | true => rw [doneR_ok hce hc hs h2]; exact w_donesY (err := 0) hf hsm hce hc.1 hc.2 hkp hbk hf2 h2 hm
  | false => rw [doneR_v hce hc hs h2]; exact w_donesV (err := 0) hf hsm hce hc.1 hc.2 hkp hbk hf2 h2 hm


theorem dn_erra {e : Ept} {c : Chg} {fk : Nat} (hf : e.fits) (hsm : e.small) (hce : eptB e = true) (hc : okCh c) (hkp : kindsP[c.kind.toNat]? = some (fn (.func fk) [])) {f : Int} (hs : stepR e c = .error f) (he : f ≠ 0) (hm : ∀ (wb ob : Nat) (v : Value), FunD Tryz.prog fk [ptr wb 0] [resW wb ob c (back0 c), resO ob e (ints e.suites) (idns e.ids) (is v) (ints e.hashes), oweRes 3 1 (e.anchors.map fun n => [int n]) v] (int f) []) : Fun Tryz.prog 64 [agg (rowEp e), agg (rowChg c)] (tupR (doneR e c)) := by
  rw [doneR_err hce hc hs]; exact w_doneaE (e2 := zeroEp) (b := zeroChg) hf hsm hce hc.1 hc.2 hkp he hm
theorem dn_oka {e : Ept} {c : Chg} {fk : Nat} (hf : e.fits) (hsm : e.small) (hce : eptB e = true) (hc : okCh c) (hkp : kindsP[c.kind.toNat]? = some (fn (.func fk) [])) {e2 : Ept} {b : Chg} (hs : stepR e c = .ok (e2, b)) (hbk : b.idn.small) (hf2 : e2.fits) (hm : ∀ (wb ob : Nat) (v : Value), FunD Tryz.prog fk [ptr wb 0] [resW wb ob c (back0 c), resO ob e (ints e.suites) (idns e.ids) (is v) (ints e.hashes), oweRes 3 1 (e.anchors.map fun n => [int n]) v] (int 0) [resW wb ob c b, cellsRes true ob 35 (rowEp e2)]) : Fun Tryz.prog 64 [agg (rowEp e), agg (rowChg c)] (tupR (doneR e c)) := by
  cases h2 : eptB e2 with
  | true => rw [doneR_ok hce hc hs h2]; exact w_doneaY (err := 0) hf hsm hce hc.1 hc.2 hkp hbk hf2 h2 hm
  | false => rw [doneR_v hce hc hs h2]; exact w_doneaV (err := 0) hf hsm hce hc.1 hc.2 hkp hbk hf2 h2 hm


theorem dn_errh {e : Ept} {c : Chg} {fk : Nat} (hf : e.fits) (hsm : e.small) (hce : eptB e = true) (hc : okCh c) (hkp : kindsP[c.kind.toNat]? = some (fn (.func fk) [])) {f : Int} (hs : stepR e c = .error f) (he : f ≠ 0) (hm : ∀ (wb ob : Nat) (v : Value), FunD Tryz.prog fk [ptr wb 0] [resW wb ob c (back0 c), resO ob e (ints e.suites) (idns e.ids) (ints e.anchors) (is v), oweRes 3 1 (e.hashes.map fun n => [int n]) v] (int f) []) : Fun Tryz.prog 64 [agg (rowEp e), agg (rowChg c)] (tupR (doneR e c)) := by
  rw [doneR_err hce hc hs]; exact w_donehE (e2 := zeroEp) (b := zeroChg) hf hsm hce hc.1 hc.2 hkp he hm
theorem dn_okh {e : Ept} {c : Chg} {fk : Nat} (hf : e.fits) (hsm : e.small) (hce : eptB e = true) (hc : okCh c) (hkp : kindsP[c.kind.toNat]? = some (fn (.func fk) [])) {e2 : Ept} {b : Chg} (hs : stepR e c = .ok (e2, b)) (hbk : b.idn.small) (hf2 : e2.fits) (hm : ∀ (wb ob : Nat) (v : Value), FunD Tryz.prog fk [ptr wb 0] [resW wb ob c (back0 c), resO ob e (ints e.suites) (idns e.ids) (ints e.anchors) (is v), oweRes 3 1 (e.hashes.map fun n => [int n]) v] (int 0) [resW wb ob c b, cellsRes true ob 35 (rowEp e2)]) : Fun Tryz.prog 64 [agg (rowEp e), agg (rowChg c)] (tupR (doneR e c)) := by
  cases h2 : eptB e2 with
  | true => rw [doneR_ok hce hc hs h2]; exact w_donehY (err := 0) hf hsm hce hc.1 hc.2 hkp hbk hf2 h2 hm
  | false => rw [doneR_v hce hc hs h2]; exact w_donehV (err := 0) hf hsm hce hc.1 hc.2 hkp hbk hf2 h2 hm


theorem dn_errz {e : Ept} {c : Chg} {fk : Nat} (hf : e.fits) (hsm : e.small) (hce : eptB e = true) (hc : okCh c) (hkp : kindsP[c.kind.toNat]? = some (fn (.func fk) [])) {f : Int} (hs : stepR e c = .error f) (he : f ≠ 0) (hm : ∀ (wb ob : Nat), FunD Tryz.prog fk [ptr wb 0] [resW wb ob c (back0 c), resO ob e (ints e.suites) (idns e.ids) (ints e.anchors) (ints e.hashes)] (int f) []) : Fun Tryz.prog 64 [agg (rowEp e), agg (rowChg c)] (tupR (doneR e c)) := by
  rw [doneR_err hce hc hs]; exact w_donezE (e2 := zeroEp) (b := zeroChg) hf hsm hce hc.1 hc.2 hkp he hm
theorem dn_okz {e : Ept} {c : Chg} {fk : Nat} (hf : e.fits) (hsm : e.small) (hce : eptB e = true) (hc : okCh c) (hkp : kindsP[c.kind.toNat]? = some (fn (.func fk) [])) {e2 : Ept} {b : Chg} (hs : stepR e c = .ok (e2, b)) (hbk : b.idn.small) (hf2 : e2.fits) (hm : ∀ (wb ob : Nat), FunD Tryz.prog fk [ptr wb 0] [resW wb ob c (back0 c), resO ob e (ints e.suites) (idns e.ids) (ints e.anchors) (ints e.hashes)] (int 0) [resW wb ob c b, cellsRes true ob 35 (rowEp e2)]) : Fun Tryz.prog 64 [agg (rowEp e), agg (rowChg c)] (tupR (doneR e c)) := by
  cases h2 : eptB e2 with
  | true => rw [doneR_ok hce hc hs h2]; exact w_donezY (err := 0) hf hsm hce hc.1 hc.2 hkp hbk hf2 h2 hm
  | false => rw [doneR_v hce hc hs h2]; exact w_donezV (err := 0) hf hsm hce hc.1 hc.2 hkp hbk hf2 h2 hm


theorem id0_small : zeroId.small := ⟨by show 0 ≤ _; omega, fun c hc => by cases hc⟩
theorem ids_ins {l : List Idn} {x : Idn} {i : Nat} (h : ∀ y ∈ l, y.fits) (hx : x.fits) : ∀ y ∈ l.take i ++ [x] ++ l.drop i, y.fits := by
  intro y hy
  simp only [List.mem_append, List.mem_cons, List.not_mem_nil, or_false] at hy
  rcases hy with (hy | rfl) | hy
  · exact h y (List.mem_of_mem_take hy)
  · exact hx
  · exact h y (List.mem_of_mem_drop hy)
theorem ids_del {l : List Idn} {i : Nat} (h : ∀ y ∈ l, y.fits) : ∀ y ∈ l.eraseIdx i, y.fits := fun y hy => h y (List.mem_of_mem_eraseIdx hy)
theorem w_done {e : Ept} {c : Chg} (hf : e.fits) (hsm : e.small) (hcf : c.idn.fits) (hcs : c.idn.small) : Fun Tryz.prog 64 [agg (rowEp e), agg (rowChg c)] (tupR (doneR e c)) := by
  cases hce : eptB e with
  | false => rw [show doneR e c = (zeroEp, zeroChg, 19) from if_pos hce]; exact w_done0 hf hce
  | true =>
  by_cases hc : okCh c
  case neg => rw [show doneR e c = (zeroEp, zeroChg, 40) from (if_neg (by rw [hce]; decide)).trans (if_pos hc)]; exact w_done1 hf hce hc
  have ok := eptB_iff.1 hce
  have hk := hc.1
  have h0 : c.kind = 1 ∨ c.kind = 2 ∨ c.kind = 3 ∨ c.kind = 4 ∨ c.kind = 5 ∨ c.kind = 6 ∨ c.kind = 7 ∨ c.kind = 8 ∨ c.kind = 9 ∨ c.kind = 10 ∨ c.kind = 11 ∨ c.kind = 12 := by omega
  rcases h0 with h1 | h2 | h3 | h4 | h5 | h6 | h7 | h8 | h9 | h10 | h11 | h12
  · -- kind 1
    by_cases hr : 0 ≤ c.at_ ∧ c.at_ ≤ (e.suites.length : Nat)
    by_cases h : (e.suites.any fun y => c.number == y) = true
    · exact dn_errs hf hsm hce hc (fk := 141) (by rw [h1]; rfl) (by unfold stepR; rw [if_pos h1]; rw [if_neg (fun h => h hr)]; exact if_pos h) (by decide) (fun wb ob v => w_addSuiteT (e := e) (c := c) (b := back0 c) hr hsm.suites h)
    · exact dn_oks hf hsm hce hc (fk := 141) (e2 := { e with suites := e.suites.take c.at_.toNat ++ [c.number] ++ e.suites.drop c.at_.toNat }) (b := ⟨c.endpoint, 2, c.number, 0, zeroId⟩) (by rw [h1]; rfl) (by unfold stepR; rw [if_pos h1]; rw [if_neg (fun h => h hr)]; exact if_neg h) id0_small ⟨hf.name, hf.ids⟩ (fun wb ob v => FunD.perm (w_addSuiteY (e := e) (c := c) (b := back0 c) hr hsm.suites (Bool.eq_false_iff.2 h)) (List.Perm.swap _ _ _))
    · exact dn_errs hf hsm hce hc (fk := 141) (by rw [h1]; rfl) (by unfold stepR; rw [if_pos h1]; exact if_pos hr) (by decide) (fun wb ob v => w_addSuiteR (e := e) (c := c) (b := back0 c) hr)
  · -- kind 2
    by_cases h : sIdx e c < 0
    · exact dn_errs hf hsm hce hc (fk := 142) (by rw [h2]; rfl) (by unfold stepR; rw [if_neg (by rw [h2]; decide)]; rw [if_pos h2]; exact if_pos h) (by decide) (fun wb ob v => w_dropSuiteN (e := e) (c := c) (b := back0 c) h)
    · exact dn_oks hf hsm hce hc (fk := 142) (e2 := { e with suites := e.suites.eraseIdx (sIdx e c).toNat }) (b := ⟨c.endpoint, 1, c.number, sIdx e c, zeroId⟩) (by rw [h2]; rfl) (by unfold stepR; rw [if_neg (by rw [h2]; decide)]; rw [if_pos h2]; exact if_neg h) id0_small ⟨hf.name, hf.ids⟩ (fun wb ob v => w_dropSuiteY (e := e) (c := c) (b := back0 c) (by unfold sIdx at h; omega) hsm.suites)
  · -- kind 3
    by_cases h : e.most = c.number
    · exact dn_errz hf hsm hce hc (fk := 143) (by rw [h3]; rfl) (by unfold stepR; rw [if_neg (by rw [h3]; decide)]; rw [if_neg (by rw [h3]; decide)]; rw [if_pos h3]; exact if_pos h) (by decide) (fun wb ob => w_fsetMostT (e := e) (c := c) (b := back0 c) h)
    · exact dn_okz hf hsm hce hc (fk := 143) (e2 := { e with most := c.number }) (b := ⟨c.endpoint, c.kind, e.most, 0, zeroId⟩) (by rw [h3]; rfl) (by unfold stepR; rw [if_neg (by rw [h3]; decide)]; rw [if_neg (by rw [h3]; decide)]; rw [if_pos h3]; exact if_neg h) id0_small ⟨hf.name, hf.ids⟩ (fun wb ob => w_fsetMostY (e := e) (c := c) (b := back0 c) h)
  · -- kind 4
    by_cases h : e.least = c.number
    · exact dn_errz hf hsm hce hc (fk := 144) (by rw [h4]; rfl) (by unfold stepR; rw [if_neg (by rw [h4]; decide)]; rw [if_neg (by rw [h4]; decide)]; rw [if_neg (by rw [h4]; decide)]; rw [if_pos h4]; exact if_pos h) (by decide) (fun wb ob => w_fsetLeastT (e := e) (c := c) (b := back0 c) h)
    · exact dn_okz hf hsm hce hc (fk := 144) (e2 := { e with least := c.number }) (b := ⟨c.endpoint, c.kind, e.least, 0, zeroId⟩) (by rw [h4]; rfl) (by unfold stepR; rw [if_neg (by rw [h4]; decide)]; rw [if_neg (by rw [h4]; decide)]; rw [if_neg (by rw [h4]; decide)]; rw [if_pos h4]; exact if_neg h) id0_small ⟨hf.name, hf.ids⟩ (fun wb ob => w_fsetLeastY (e := e) (c := c) (b := back0 c) h)
  · -- kind 5
    by_cases hr : 0 ≤ c.at_ ∧ c.at_ ≤ (e.ids.length : Nat)
    by_cases h : 0 ≤ keyIdx c.idn.keyId e.ids
    · exact dn_errn hf hsm hce hc (fk := 145) (by rw [h5]; rfl) (by unfold stepR; rw [if_neg (by rw [h5]; decide)]; rw [if_neg (by rw [h5]; decide)]; rw [if_neg (by rw [h5]; decide)]; rw [if_neg (by rw [h5]; decide)]; rw [if_pos h5]; rw [if_neg (fun h => h hr)]; exact if_pos h) (by decide) (fun wb ob v => w_addIdnT (e := e) (c := c) (b := back0 c) hcs hr hsm.idl h)
    · exact dn_okn hf hsm hce hc (fk := 145) (e2 := { e with ids := e.ids.take c.at_.toNat ++ [c.idn] ++ e.ids.drop c.at_.toNat }) (b := ⟨c.endpoint, 6, c.idn.keyId, 0, zeroId⟩) (by rw [h5]; rfl) (by unfold stepR; rw [if_neg (by rw [h5]; decide)]; rw [if_neg (by rw [h5]; decide)]; rw [if_neg (by rw [h5]; decide)]; rw [if_neg (by rw [h5]; decide)]; rw [if_pos h5]; rw [if_neg (fun h => h hr)]; exact if_neg h) id0_small ⟨hf.name, ids_ins hf.ids hcf⟩ (fun wb ob v => FunD.perm (w_addIdnY (e := e) (c := c) (b := back0 c) hcs hr hsm.idl (by omega)) (List.Perm.swap _ _ _))
    · exact dn_errn hf hsm hce hc (fk := 145) (by rw [h5]; rfl) (by unfold stepR; rw [if_neg (by rw [h5]; decide)]; rw [if_neg (by rw [h5]; decide)]; rw [if_neg (by rw [h5]; decide)]; rw [if_neg (by rw [h5]; decide)]; rw [if_pos h5]; exact if_pos hr) (by decide) (fun wb ob v => w_addIdnR (e := e) (c := c) (b := back0 c) hcs hr)
  · -- kind 6
    by_cases h : keyIdx c.number e.ids < 0
    · exact dn_errn hf hsm hce hc (fk := 146) (by rw [h6]; rfl) (by unfold stepR; rw [if_neg (by rw [h6]; decide)]; rw [if_neg (by rw [h6]; decide)]; rw [if_neg (by rw [h6]; decide)]; rw [if_neg (by rw [h6]; decide)]; rw [if_neg (by rw [h6]; decide)]; rw [if_pos h6]; cases e.ids[(keyIdx c.number e.ids).toNat]? <;> first | rfl | exact if_pos h) (by decide) (fun wb ob v => w_dropIdnN (e := e) (c := c) (b := back0 c) (x := zeroId) h)
    obtain ⟨x, hx, _, _⟩ := idx_hit (p := fun x : Idn => x.keyId == c.number) (l := e.ids) (by unfold keyIdx at h; omega)
    have hx : e.ids[(keyIdx c.number e.ids).toNat]? = some x := hx
    by_cases ht : ((e.ids.drop (keyIdx c.number e.ids + 1).toNat).any fun x => x.keyId == c.number) = true
    · exact dn_errn hf hsm hce hc (fk := 146) (by rw [h6]; rfl) (by unfold stepR; rw [if_neg (by rw [h6]; decide)]; rw [if_neg (by rw [h6]; decide)]; rw [if_neg (by rw [h6]; decide)]; rw [if_neg (by rw [h6]; decide)]; rw [if_neg (by rw [h6]; decide)]; rw [if_pos h6]; rw [hx]; exact (if_neg h).trans (if_pos ht)) (by decide) (fun wb ob v => w_dropIdnT (e := e) (c := c) (b := back0 c) (x := x) (by omega) hx ht hsm.idl)
    · exact dn_okn hf hsm hce hc (fk := 146) (e2 := { e with ids := e.ids.eraseIdx (keyIdx c.number e.ids).toNat }) (b := ⟨c.endpoint, 5, 0, keyIdx c.number e.ids, x⟩) (by rw [h6]; rfl) (by unfold stepR; rw [if_neg (by rw [h6]; decide)]; rw [if_neg (by rw [h6]; decide)]; rw [if_neg (by rw [h6]; decide)]; rw [if_neg (by rw [h6]; decide)]; rw [if_neg (by rw [h6]; decide)]; rw [if_pos h6]; rw [hx]; exact (if_neg h).trans (if_neg ht)) (hsm.ids x (List.mem_of_getElem? hx)) ⟨hf.name, ids_del hf.ids⟩ (fun wb ob v => w_dropIdnY (e := e) (c := c) (b := back0 c) (x := x) (by omega) hx (Bool.eq_false_iff.2 ht) hsm.idl)
  · -- kind 7
    by_cases h : hasX e.anchors c.number = true
    · exact dn_erra hf hsm hce hc (fk := 147) (by rw [h7]; rfl) (by unfold stepR; rw [if_neg (by rw [h7]; decide)]; rw [if_neg (by rw [h7]; decide)]; rw [if_neg (by rw [h7]; decide)]; rw [if_neg (by rw [h7]; decide)]; rw [if_neg (by rw [h7]; decide)]; rw [if_neg (by rw [h7]; decide)]; rw [if_pos h7]; exact if_pos h) (by decide) (fun wb ob v => w_addAnchorT (e := e) (c := c) (b := back0 c) (ascI_of ok.anc) hsm.anchors h)
    · exact dn_oka hf hsm hce hc (fk := 147) (e2 := { e with anchors := insX e.anchors c.number }) (b := ⟨c.endpoint, 8, c.number, 0, zeroId⟩) (by rw [h7]; rfl) (by unfold stepR; rw [if_neg (by rw [h7]; decide)]; rw [if_neg (by rw [h7]; decide)]; rw [if_neg (by rw [h7]; decide)]; rw [if_neg (by rw [h7]; decide)]; rw [if_neg (by rw [h7]; decide)]; rw [if_neg (by rw [h7]; decide)]; rw [if_pos h7]; exact if_neg h) id0_small ⟨hf.name, hf.ids⟩ (fun wb ob v => w_addAnchorY (e := e) (c := c) (b := back0 c) (ascI_of ok.anc) hsm.anchors (Bool.eq_false_iff.2 h))
  · -- kind 8
    by_cases h : hasX e.anchors c.number = true
    · exact dn_oka hf hsm hce hc (fk := 148) (e2 := { e with anchors := e.anchors.eraseIdx (posI e.anchors c.number) }) (b := ⟨c.endpoint, 7, c.number, 0, zeroId⟩) (by rw [h8]; rfl) (by unfold stepR; rw [if_neg (by rw [h8]; decide)]; rw [if_neg (by rw [h8]; decide)]; rw [if_neg (by rw [h8]; decide)]; rw [if_neg (by rw [h8]; decide)]; rw [if_neg (by rw [h8]; decide)]; rw [if_neg (by rw [h8]; decide)]; rw [if_neg (by rw [h8]; decide)]; rw [if_pos h8]; exact if_pos h) id0_small ⟨hf.name, hf.ids⟩ (fun wb ob v => w_dropAnchorY (e := e) (c := c) (b := back0 c) (ascI_of ok.anc) hsm.anchors h)
    · exact dn_erra hf hsm hce hc (fk := 148) (by rw [h8]; rfl) (by unfold stepR; rw [if_neg (by rw [h8]; decide)]; rw [if_neg (by rw [h8]; decide)]; rw [if_neg (by rw [h8]; decide)]; rw [if_neg (by rw [h8]; decide)]; rw [if_neg (by rw [h8]; decide)]; rw [if_neg (by rw [h8]; decide)]; rw [if_neg (by rw [h8]; decide)]; rw [if_pos h8]; exact if_neg h) (by decide) (fun wb ob v => w_dropAnchorT (e := e) (c := c) (b := back0 c) (ascI_of ok.anc) hsm.anchors (Bool.eq_false_iff.2 h))
  · -- kind 9
    by_cases h : hasX e.hashes c.number = true
    · exact dn_errh hf hsm hce hc (fk := 149) (by rw [h9]; rfl) (by unfold stepR; rw [if_neg (by rw [h9]; decide)]; rw [if_neg (by rw [h9]; decide)]; rw [if_neg (by rw [h9]; decide)]; rw [if_neg (by rw [h9]; decide)]; rw [if_neg (by rw [h9]; decide)]; rw [if_neg (by rw [h9]; decide)]; rw [if_neg (by rw [h9]; decide)]; rw [if_neg (by rw [h9]; decide)]; rw [if_pos h9]; exact if_pos h) (by decide) (fun wb ob v => w_addHashT (e := e) (c := c) (b := back0 c) (ascI_of ok.hash) hsm.hashes h)
    · exact dn_okh hf hsm hce hc (fk := 149) (e2 := { e with hashes := insX e.hashes c.number }) (b := ⟨c.endpoint, 10, c.number, 0, zeroId⟩) (by rw [h9]; rfl) (by unfold stepR; rw [if_neg (by rw [h9]; decide)]; rw [if_neg (by rw [h9]; decide)]; rw [if_neg (by rw [h9]; decide)]; rw [if_neg (by rw [h9]; decide)]; rw [if_neg (by rw [h9]; decide)]; rw [if_neg (by rw [h9]; decide)]; rw [if_neg (by rw [h9]; decide)]; rw [if_neg (by rw [h9]; decide)]; rw [if_pos h9]; exact if_neg h) id0_small ⟨hf.name, hf.ids⟩ (fun wb ob v => w_addHashY (e := e) (c := c) (b := back0 c) (ascI_of ok.hash) hsm.hashes (Bool.eq_false_iff.2 h))
  · -- kind 10
    by_cases h : hasX e.hashes c.number = true
    · exact dn_okh hf hsm hce hc (fk := 150) (e2 := { e with hashes := e.hashes.eraseIdx (posI e.hashes c.number) }) (b := ⟨c.endpoint, 9, c.number, 0, zeroId⟩) (by rw [h10]; rfl) (by unfold stepR; rw [if_neg (by rw [h10]; decide)]; rw [if_neg (by rw [h10]; decide)]; rw [if_neg (by rw [h10]; decide)]; rw [if_neg (by rw [h10]; decide)]; rw [if_neg (by rw [h10]; decide)]; rw [if_neg (by rw [h10]; decide)]; rw [if_neg (by rw [h10]; decide)]; rw [if_neg (by rw [h10]; decide)]; rw [if_neg (by rw [h10]; decide)]; rw [if_pos h10]; exact if_pos h) id0_small ⟨hf.name, hf.ids⟩ (fun wb ob v => w_dropHashY (e := e) (c := c) (b := back0 c) (ascI_of ok.hash) hsm.hashes h)
    · exact dn_errh hf hsm hce hc (fk := 150) (by rw [h10]; rfl) (by unfold stepR; rw [if_neg (by rw [h10]; decide)]; rw [if_neg (by rw [h10]; decide)]; rw [if_neg (by rw [h10]; decide)]; rw [if_neg (by rw [h10]; decide)]; rw [if_neg (by rw [h10]; decide)]; rw [if_neg (by rw [h10]; decide)]; rw [if_neg (by rw [h10]; decide)]; rw [if_neg (by rw [h10]; decide)]; rw [if_neg (by rw [h10]; decide)]; rw [if_pos h10]; exact if_neg h) (by decide) (fun wb ob v => w_dropHashT (e := e) (c := c) (b := back0 c) (ascI_of ok.hash) hsm.hashes (Bool.eq_false_iff.2 h))
  · -- kind 11
    by_cases hr : 0 ≤ c.number ∧ c.number ≤ 1
    by_cases h : bitI e.fall = c.number
    · exact dn_errz hf hsm hce hc (fk := 151) (by rw [h11]; rfl) (by unfold stepR; rw [if_neg (by rw [h11]; decide)]; rw [if_neg (by rw [h11]; decide)]; rw [if_neg (by rw [h11]; decide)]; rw [if_neg (by rw [h11]; decide)]; rw [if_neg (by rw [h11]; decide)]; rw [if_neg (by rw [h11]; decide)]; rw [if_neg (by rw [h11]; decide)]; rw [if_neg (by rw [h11]; decide)]; rw [if_neg (by rw [h11]; decide)]; rw [if_neg (by rw [h11]; decide)]; rw [if_pos h11]; rw [if_neg (fun h => h hr)]; exact if_pos h) (by decide) (fun wb ob => w_fsetFallbackT (e := e) (c := c) (b := back0 c) hr rfl h)
    · exact dn_okz hf hsm hce hc (fk := 151) (e2 := { e with fall := (c.number == 1) }) (b := ⟨c.endpoint, c.kind, bitI e.fall, 0, zeroId⟩) (by rw [h11]; rfl) (by unfold stepR; rw [if_neg (by rw [h11]; decide)]; rw [if_neg (by rw [h11]; decide)]; rw [if_neg (by rw [h11]; decide)]; rw [if_neg (by rw [h11]; decide)]; rw [if_neg (by rw [h11]; decide)]; rw [if_neg (by rw [h11]; decide)]; rw [if_neg (by rw [h11]; decide)]; rw [if_neg (by rw [h11]; decide)]; rw [if_neg (by rw [h11]; decide)]; rw [if_neg (by rw [h11]; decide)]; rw [if_pos h11]; rw [if_neg (fun h => h hr)]; exact if_neg h) id0_small ⟨hf.name, hf.ids⟩ (fun wb ob => w_fsetFallbackY (e := e) (c := c) (b := back0 c) hr rfl h)
    · exact dn_errz hf hsm hce hc (fk := 151) (by rw [h11]; rfl) (by unfold stepR; rw [if_neg (by rw [h11]; decide)]; rw [if_neg (by rw [h11]; decide)]; rw [if_neg (by rw [h11]; decide)]; rw [if_neg (by rw [h11]; decide)]; rw [if_neg (by rw [h11]; decide)]; rw [if_neg (by rw [h11]; decide)]; rw [if_neg (by rw [h11]; decide)]; rw [if_neg (by rw [h11]; decide)]; rw [if_neg (by rw [h11]; decide)]; rw [if_neg (by rw [h11]; decide)]; rw [if_pos h11]; exact if_pos hr) (by decide) (fun wb ob => w_fsetFallbackR (e := e) (c := c) (b := back0 c) hr)
  · -- kind 12
    by_cases hr : 0 ≤ c.number ∧ c.number ≤ 1
    by_cases h : bitI e.own = c.number
    · exact dn_errz hf hsm hce hc (fk := 152) (by rw [h12]; rfl) (by unfold stepR; rw [if_neg (by rw [h12]; decide)]; rw [if_neg (by rw [h12]; decide)]; rw [if_neg (by rw [h12]; decide)]; rw [if_neg (by rw [h12]; decide)]; rw [if_neg (by rw [h12]; decide)]; rw [if_neg (by rw [h12]; decide)]; rw [if_neg (by rw [h12]; decide)]; rw [if_neg (by rw [h12]; decide)]; rw [if_neg (by rw [h12]; decide)]; rw [if_neg (by rw [h12]; decide)]; rw [if_neg (by rw [h12]; decide)]; rw [if_neg (fun h => h hr)]; exact if_pos h) (by decide) (fun wb ob => w_fsetOrderT (e := e) (c := c) (b := back0 c) hr rfl h)
    · exact dn_okz hf hsm hce hc (fk := 152) (e2 := { e with own := (c.number == 1) }) (b := ⟨c.endpoint, c.kind, bitI e.own, 0, zeroId⟩) (by rw [h12]; rfl) (by unfold stepR; rw [if_neg (by rw [h12]; decide)]; rw [if_neg (by rw [h12]; decide)]; rw [if_neg (by rw [h12]; decide)]; rw [if_neg (by rw [h12]; decide)]; rw [if_neg (by rw [h12]; decide)]; rw [if_neg (by rw [h12]; decide)]; rw [if_neg (by rw [h12]; decide)]; rw [if_neg (by rw [h12]; decide)]; rw [if_neg (by rw [h12]; decide)]; rw [if_neg (by rw [h12]; decide)]; rw [if_neg (by rw [h12]; decide)]; rw [if_neg (fun h => h hr)]; exact if_neg h) id0_small ⟨hf.name, hf.ids⟩ (fun wb ob => w_fsetOrderY (e := e) (c := c) (b := back0 c) hr rfl h)
    · exact dn_errz hf hsm hce hc (fk := 152) (by rw [h12]; rfl) (by unfold stepR; rw [if_neg (by rw [h12]; decide)]; rw [if_neg (by rw [h12]; decide)]; rw [if_neg (by rw [h12]; decide)]; rw [if_neg (by rw [h12]; decide)]; rw [if_neg (by rw [h12]; decide)]; rw [if_neg (by rw [h12]; decide)]; rw [if_neg (by rw [h12]; decide)]; rw [if_neg (by rw [h12]; decide)]; rw [if_neg (by rw [h12]; decide)]; rw [if_neg (by rw [h12]; decide)]; rw [if_neg (by rw [h12]; decide)]; exact if_pos hr) (by decide) (fun wb ob => w_fsetOrderR (e := e) (c := c) (b := back0 c) hr)

set_option maxRecDepth 20000 in
theorem w_Check24 {e : Ept} {c : Chg} (hf : e.fits) (hsm : e.small) (hcf : c.idn.fits) (hcs : c.idn.small) : Fun Tryz.prog 23 [agg (rowEp e), agg (rowChg c)] (int (doneR e c).2.2) := by
 refine Fun.of Tryz.func23 rfl rfl (by exact Nat.le_of_ble_eq_true rfl) fun M0 w0 => ?_
 refine Tr.seq (Tr.reg0 (co rfl (ok_box rfl (VL.le (vl rfl) (agg_cellsP _))) (co rfl (ok_box rfl (VL.le (vl rfl) (agg_cellsP _))) (cm rfl (Ch.nil (Fin.go (Tr.seq (Tr.regT (tp rfl (ok_loadA rfl agg35 sz35 (vl rfl) rfl rfl) (tp rfl (ok_loadA rfl agg49 sz49 (vl rfl) rfl rfl) (tp rfl (ok_call rfl (w_done hf hsm hcf hcs) ⟨ke rfl, ke rfl, trivial⟩) (tm rfl (tp rfl (ok_extract rfl (vl rfl) rfl) ?_)))))))))))))
 refine tp rfl (ok_extract rfl (vl rfl) rfl) (tp rfl (ok_extract rfl (vl rfl) rfl) ?_)
 refine TO.alloc rfl rfl (by decide) rfl z35 zo35 (fun b1 => ?_)
 refine TO.alloc rfl rfl (by decide) rfl z49 zo49 (fun b2 => ?_)
 refine TO.store_all 1 rfl rfl rfl (vl rfl) (VL.le (vl rfl) (agg_cellsP _)) rfl sz35 rfl rfl (TO.freeze 1 5 rfl rfl (TO.store_all 0 rfl rfl rfl (vl rfl) (VL.le (vl rfl) (agg_cellsP _)) rfl sz49 rfl rfl (TO.freeze 0 6 rfl rfl (tm rfl (TO.nil (Fin.go (wk1 7 rfl (Tr.seq (Tr.reg0 (cm rfl (cm rfl (Ch.nil (Fin.go (Tr.ret ?_))))))))))))))
 refine Fin.ret1 rfl (OutW.bse _ _) rfl ?_
 · exact Pr.le_refl _
set_option maxRecDepth 20000 in
theorem w_Apply24 {e : Ept} {c : Chg} (hf : e.fits) (hsm : e.small) (hcf : c.idn.fits) (hcs : c.idn.small) : Fun Tryz.prog 22 [agg (rowEp e), agg (rowChg c)] (tup [agg (rowEp (doneR e c).1), int (doneR e c).2.2]) := by
 refine Fun.of Tryz.func22 rfl rfl (by exact Nat.le_of_ble_eq_true rfl) fun M0 w0 => ?_
 refine Tr.seq (Tr.regT (tp rfl (ok_box rfl (VL.le (vl rfl) (agg_cellsP _))) (tp rfl (ok_box rfl (VL.le (vl rfl) (agg_cellsP _))) ?_)))
 refine TO.alloc rfl rfl (by decide) rfl z35 zo35 (fun b1 => ?_)
 refine tm rfl (TO.nil (Fin.go (Tr.seq (Tr.regT (tp rfl (ok_loadA rfl agg35 sz35 (vl rfl) rfl rfl) (tp rfl (ok_loadA rfl agg49 sz49 (vl rfl) rfl rfl) (tp rfl (ok_call rfl (w_done hf hsm hcf hcs) ⟨ke rfl, ke rfl, trivial⟩) (tm rfl (tp rfl (ok_extract rfl (vl rfl) rfl) (tp rfl (ok_extract rfl (vl rfl) rfl) (tp rfl (ok_extract rfl (vl rfl) rfl) ?_)))))))))))
 refine TO.alloc rfl rfl (by decide) rfl z35 zo35 (fun b2 => ?_)
 refine TO.alloc rfl rfl (by decide) rfl z49 zo49 (fun b3 => ?_)
 refine TO.store_all 1 rfl rfl rfl (vl rfl) (VL.le (vl rfl) (agg_cellsP _)) rfl sz35 rfl rfl (TO.freeze 1 6 rfl rfl (TO.store_all 0 rfl rfl rfl (vl rfl) (VL.le (vl rfl) (agg_cellsP _)) rfl sz49 rfl rfl (TO.freeze 0 7 rfl rfl (tm rfl (TO.nil (Fin.go (wk3 4 6 8 rfl (Tr.seq (Tr.regT (tp rfl (ok_loadA rfl agg35 sz35 (vl rfl) rfl rfl) (tm rfl (TO.store_all 0 rfl rfl rfl (vl rfl) (VL.le (vl rfl) (agg_cellsP _)) rfl sz35 rfl rfl (tm rfl ?_)))))))))))))
 refine TO.nil (Fin.go (Tr.ret (Fin.retX2 rfl (RVal.cell 0 rfl rfl agg35 sz35 rfl (Pr.le_refl _)) (RVal.tmp rfl (Pr.le_refl _)) ?_)))
 refine tup_le ⟨?_, ?_, trivial⟩
 · exact Pr.le_refl _
 · exact Pr.le_refl _
set_option maxRecDepth 20000 in
theorem w_Inverse24 {e : Ept} {c : Chg} (hf : e.fits) (hsm : e.small) (hcf : c.idn.fits) (hcs : c.idn.small) : Fun Tryz.prog 25 [agg (rowEp e), agg (rowChg c)] (tup [agg (rowChg (doneR e c).2.1), int (doneR e c).2.2]) := by
 refine Fun.of Tryz.func25 rfl rfl (by exact Nat.le_of_ble_eq_true rfl) fun M0 w0 => ?_
 refine Tr.seq (Tr.regT (tp rfl (ok_box rfl (VL.le (vl rfl) (agg_cellsP _))) (tp rfl (ok_box rfl (VL.le (vl rfl) (agg_cellsP _))) ?_)))
 refine TO.alloc rfl rfl (by decide) rfl z49 zo49 (fun b1 => ?_)
 refine tm rfl (TO.nil (Fin.go (Tr.seq (Tr.regT (tp rfl (ok_loadA rfl agg35 sz35 (vl rfl) rfl rfl) (tp rfl (ok_loadA rfl agg49 sz49 (vl rfl) rfl rfl) (tp rfl (ok_call rfl (w_done hf hsm hcf hcs) ⟨ke rfl, ke rfl, trivial⟩) (tm rfl (tp rfl (ok_extract rfl (vl rfl) rfl) (tp rfl (ok_extract rfl (vl rfl) rfl) (tp rfl (ok_extract rfl (vl rfl) rfl) ?_)))))))))))
 refine TO.alloc rfl rfl (by decide) rfl z35 zo35 (fun b2 => ?_)
 refine TO.alloc rfl rfl (by decide) rfl z49 zo49 (fun b3 => ?_)
 refine TO.store_all 1 rfl rfl rfl (vl rfl) (VL.le (vl rfl) (agg_cellsP _)) rfl sz35 rfl rfl (TO.freeze 1 6 rfl rfl (TO.store_all 0 rfl rfl rfl (vl rfl) (VL.le (vl rfl) (agg_cellsP _)) rfl sz49 rfl rfl (TO.freeze 0 7 rfl rfl (tm rfl (TO.nil (Fin.go (wk3 4 7 8 rfl (Tr.seq (Tr.regT (tp rfl (ok_loadA rfl agg49 sz49 (vl rfl) rfl rfl) (tm rfl (TO.store_all 0 rfl rfl rfl (vl rfl) (VL.le (vl rfl) (agg_cellsP _)) rfl sz49 rfl rfl (tm rfl ?_)))))))))))))
 refine TO.nil (Fin.go (Tr.ret (Fin.retX2 rfl (RVal.cell 0 rfl rfl agg49 sz49 rfl (Pr.le_refl _)) (RVal.tmp rfl (Pr.le_refl _)) ?_)))
 refine tup_le ⟨?_, ?_, trivial⟩
 · exact Pr.le_refl _
 · exact Pr.le_refl _
end Go.Proofs.YtflodcidhlmaaaaGreat
namespace Go.Proofs.YtflodcidhlmaaaaGreat
open Go Go.RowKit Cp
theorem eqv124 {d : Nat} {w : World} {x0 y0 : Int} {x1 y1 : Int} : (Op.equalIn (d + 2) 124 (.agg #[.int .i64 x0, .int .i64 x1]) (.agg #[.int .i64 y0, .int .i64 y1])).run Tryz.prog w = .ok (decide (x0 = y0 ∧ x1 = y1)) w := by
  have h := eqS (w := w) (d := d + 1) (xs := #[.int .i64 x0, .int .i64 x1]) (ys := #[.int .i64 y0, .int .i64 y1]) Tryz.underlying124 (by kernel_rfl) (eqF_cons (by decide) (part_leaf one3 rfl) (part_leaf one3 rfl) (eq_intL (d := d + 0) Tryz.underlying3) (eqF_cons (by decide) (part_leaf one3 rfl) (part_leaf one3 rfl) (eq_intL (d := d + 0) Tryz.underlying3) (eqF_nil)))
  refine h.trans (congrArg (fun b => Result.ok b w) ?_)
  rw [Bool.eq_iff_iff]; simp [and_assoc]
theorem ok_eq124 {E : Env} {I : Asn} {o : Oper} {u : TypeId} {x y : Operand} {x0 y0 : Int} {x1 y1 : Int} (ho : o.op = .binOp .eql 124 x y u) (hx : VL E x (agg [is (.int .i64 x0), is (.int .i64 x1)])) (hy : VL E y (agg [is (.int .i64 y0), is (.int .i64 y1)])) : OpOK Tryz.prog I o E (bool (decide (x0 = y0 ∧ x1 = y1))) :=
  ok_eqagg [.int .i64 x0, .int .i64 x1] [.int .i64 y0, .int .i64 y1] ho hx hy (by kernel_rfl) (fun w => by rw [show Op.equal 124 _ _ = Op.equalIn (9998 + 2) 124 _ _ from rfl]; exact eqv124)
theorem ok_ne124 {E : Env} {I : Asn} {o : Oper} {u : TypeId} {x y : Operand} {x0 y0 : Int} {x1 y1 : Int} (ho : o.op = .binOp .neq 124 x y u) (hx : VL E x (agg [is (.int .i64 x0), is (.int .i64 x1)])) (hy : VL E y (agg [is (.int .i64 y0), is (.int .i64 y1)])) : OpOK Tryz.prog I o E (bool (!decide (x0 = y0 ∧ x1 = y1))) :=
  ok_neagg [.int .i64 x0, .int .i64 x1] [.int .i64 y0, .int .i64 y1] ho hx hy (by kernel_rfl) (fun w => by rw [show Op.equal 124 _ _ = Op.equalIn (9998 + 2) 124 _ _ from rfl]; exact eqv124)

deriving instance DecidableEq for Crt
deriving instance DecidableEq for Idn
deriving instance DecidableEq for Ept
deriving instance DecidableEq for Chg
theorem sameY {α : Type} {a b : List α} {k : Nat} {x y : α} (ha : a[k]? = some x) (hb : b[k]? = some y) (h : a.take k = b.take k) (e : x = y) : a.take (k + 1) = b.take (k + 1) := by
  rw [List.take_add_one, List.take_add_one, ha, hb, h, e]
theorem sameN {α : Type} {a b : List α} {k : Nat} {x y : α} (ha : a[k]? = some x) (hb : b[k]? = some y) (e : ¬ x = y) : ¬ a = b := by
  rintro rfl; rw [ha] at hb; cases hb; exact e rfl
theorem sameA {α : Type} {a b : List α} (hl : a.length = b.length) (h : a.take a.length = b.take a.length) : a = b := by
  rw [List.take_length, hl, List.take_length] at h; exact h

set_option maxRecDepth 20000 in
theorem w_SameInts {a b : List (Int)}  : Fun Tryz.prog 60 [ints a, ints b] (bool (decide (a = b))) := by
 refine Fun.of Tryz.func60 rfl rfl (by exact Nat.le_of_ble_eq_true rfl) fun M0 w0 => ?_
 refine Tr.lenm 0 rfl fun hlm_0 => (Tr.lenm 1 rfl fun hlm_1 => (Tr.seq (Tr.reg0 (cm rfl (Ch.nil (Fin.go (Tr.seq (Tr.seq (Tr.reg0 (cm rfl (co rfl (ok_lenm rfl Tryz.underlying22 (vl rfl)) (cm rfl (co rfl (ok_lenm rfl Tryz.underlying22 (vl rfl)) ?_)))))))))))))
 refine co rfl (ki rfl rfl rfl rfl) (Ch.nil (Fin.go ?_))
 refine Tr.cn rfl ?_ ?_ <;> intro h1 q1
 have hne : ¬ a.length = b.length := by simp_all; omega
 refine Tr.seq (Tr.reg0 (cm rfl (Ch.nil (Fin.go (Tr.ret (Fin.then_ret (Fin.ret1 rfl (OutW.bse _ _) rfl ?_)))))))
 · refine bool_eq ?_; symm; rw [decide_eq_false_iff_not]; rintro rfl; exact hne rfl
 have hll : a.length = b.length := by simp_all; omega
 refine Tr.skip (Fin.go (Tr.seq (Tr.seq (Tr.reg0 (cm rfl (Ch.nil (Fin.go (Tr.block (Tr.loopw [(0, _), (1, _)] (kk2 rfl) (fun k : Nat => [(5, int ((k : Nat) : Int))]) (fun k : Nat => k ≤ (a).length ∧ (a.take k = b.take k)) (fun k : Nat => (a).length - k) 0 (⟨Nat.zero_le _, rfl⟩) ⟨ke rfl, trivial⟩ ?_)))))))))
 rintro k ⟨hle_k, hinv_k⟩
 refine Tr.seq (Tr.seq (Tr.reg0 (cm rfl (cm rfl (co rfl (ok_lenm rfl Tryz.underlying22 (vl rfl)) (co rfl (ki rfl rfl rfl rfl) (Ch.nil (Fin.go ?_))))))))
 refine Tr.cn rfl ?_ ?_ <;> intro h2 q2
 have hk_k : k < (a).length := lt_of_dec h2
 obtain ⟨x, hx_k⟩ := at_ hk_k
 obtain ⟨y, hy⟩ := at_ (l := b) (k := k) (by omega)
 refine Tr.skip (Fin.go (Tr.seq (Tr.block (Tr.seq (Tr.reg1 mixed (by kernel_rfl) (cm rfl (cm rfl (co rfl (ok_indexAddr rfl Tryz.underlying22 sz3 (vl rfl) (vl rfl) (by omega) (row_at hx_k)) (co rfl (kl1 rfl one3 rfl) (cm rfl (cm rfl (co rfl (ok_indexAddr rfl Tryz.underlying22 sz3 (vl rfl) (vl rfl) (by omega) (row_at hy)) (co rfl (kl1 rfl one3 rfl) ?_)))))))))))))
 refine co rfl (ki rfl rfl rfl rfl) (Ch.nil (Fin.go (wk4 0 1 5 25 rfl ?_)))
 refine Tr.cn rfl ?_ ?_ <;> intro h3 q3
 refine Tr.seq (Tr.reg0 (cm rfl (Ch.nil (Fin.go (Tr.ret (Fin.block_ret (Fin.then_ret (Fin.then_ret (Fin.block_ret (Fin.then_ret (Fin.ret1 rfl (OutW.bse _ _) rfl ?_)))))))))))
 · refine bool_eq ?_; symm; rw [decide_eq_false_iff_not]; refine sameN hx_k hy ?_; rintro rfl; simp_all
 refine Tr.skip (Fin.block (Fin.go (Tr.reg0 (cm rfl (cad rfl rfl rfl rfl (by omega) (cm rfl (Ch.nil (Fin.fam_same (k + 1) ⟨⟨hk_k, sameY hx_k hy hinv_k (by simp_all)⟩, by omega⟩ ⟨⟨_, rfl, int_succ k⟩, ke rfl, ke rfl, trivial⟩))))))))
 have he_k : k = (a).length := by have := ge_of_dec h2; omega
 subst he_k
 refine Tr.exit (Fin.then_exit (Fin.then_exit (Fin.block_here (Fin.go (Tr.seq (Tr.reg0 (cm rfl (Ch.nil (Fin.go (Tr.ret (Fin.ret1 rfl (OutW.bse _ _) rfl ?_)))))))))))
 · refine bool_eq ?_; symm; rw [decide_eq_true_eq]; exact sameA hll hinv_k
set_option maxRecDepth 20000 in
theorem w_SameTexts {a b : List (List UInt8)}  : Fun Tryz.prog 175 [txts a, txts b] (bool (decide (a = b))) := by
 refine Fun.of Tryz.func175 rfl rfl (by exact Nat.le_of_ble_eq_true rfl) fun M0 w0 => ?_
 refine Tr.lenm 0 rfl fun hlm_0 => (Tr.lenm 1 rfl fun hlm_1 => (Tr.seq (Tr.reg0 (cm rfl (Ch.nil (Fin.go (Tr.seq (Tr.seq (Tr.reg0 (cm rfl (co rfl (ok_lenm rfl Tryz.underlying83 (vl rfl)) (cm rfl (co rfl (ok_lenm rfl Tryz.underlying83 (vl rfl)) ?_)))))))))))))
 refine co rfl (ki rfl rfl rfl rfl) (Ch.nil (Fin.go ?_))
 refine Tr.cn rfl ?_ ?_ <;> intro h1 q1
 have hne : ¬ a.length = b.length := by simp_all; omega
 refine Tr.seq (Tr.reg0 (cm rfl (Ch.nil (Fin.go (Tr.ret (Fin.then_ret (Fin.ret1 rfl (OutW.bse _ _) rfl ?_)))))))
 · refine bool_eq ?_; symm; rw [decide_eq_false_iff_not]; rintro rfl; exact hne rfl
 have hll : a.length = b.length := by simp_all; omega
 refine Tr.skip (Fin.go (Tr.seq (Tr.seq (Tr.reg0 (cm rfl (Ch.nil (Fin.go (Tr.block (Tr.loopw [(0, _), (1, _)] (kk2 rfl) (fun k : Nat => [(5, int ((k : Nat) : Int))]) (fun k : Nat => k ≤ (a).length ∧ (a.take k = b.take k)) (fun k : Nat => (a).length - k) 0 (⟨Nat.zero_le _, rfl⟩) ⟨ke rfl, trivial⟩ ?_)))))))))
 rintro k ⟨hle_k, hinv_k⟩
 refine Tr.seq (Tr.seq (Tr.reg0 (cm rfl (cm rfl (co rfl (ok_lenm rfl Tryz.underlying83 (vl rfl)) (co rfl (ki rfl rfl rfl rfl) (Ch.nil (Fin.go ?_))))))))
 refine Tr.cn rfl ?_ ?_ <;> intro h2 q2
 have hk_k : k < (a).length := lt_of_dec h2
 obtain ⟨x, hx_k⟩ := at_ hk_k
 obtain ⟨y, hy⟩ := at_ (l := b) (k := k) (by omega)
 refine Tr.skip (Fin.go (Tr.seq (Tr.block (Tr.seq (Tr.reg1 mixed (by kernel_rfl) (cm rfl (cm rfl (co rfl (ok_indexAddr rfl Tryz.underlying83 sz9 (vl rfl) (vl rfl) (by omega) (row_at hx_k)) (co rfl (kl1 rfl one9 rfl) (cm rfl (cm rfl (co rfl (ok_indexAddr rfl Tryz.underlying83 sz9 (vl rfl) (vl rfl) (by omega) (row_at hy)) (co rfl (kl1 rfl one9 rfl) ?_)))))))))))))
 refine co rfl (ok_nes rfl (vl rfl) (vl rfl)) (Ch.nil (Fin.go (wk4 0 1 5 25 rfl ?_)))
 refine Tr.cn rfl ?_ ?_ <;> intro h3 q3
 refine Tr.seq (Tr.reg0 (cm rfl (Ch.nil (Fin.go (Tr.ret (Fin.block_ret (Fin.then_ret (Fin.then_ret (Fin.block_ret (Fin.then_ret (Fin.ret1 rfl (OutW.bse _ _) rfl ?_)))))))))))
 · refine bool_eq ?_; symm; rw [decide_eq_false_iff_not]; refine sameN hx_k hy ?_; rintro rfl; simp_all
 refine Tr.skip (Fin.block (Fin.go (Tr.reg0 (cm rfl (cad rfl rfl rfl rfl (by omega) (cm rfl (Ch.nil (Fin.fam_same (k + 1) ⟨⟨hk_k, sameY hx_k hy hinv_k (by simp_all)⟩, by omega⟩ ⟨⟨_, rfl, int_succ k⟩, ke rfl, ke rfl, trivial⟩))))))))
 have he_k : k = (a).length := by have := ge_of_dec h2; omega
 subst he_k
 refine Tr.exit (Fin.then_exit (Fin.then_exit (Fin.block_here (Fin.go (Tr.seq (Tr.reg0 (cm rfl (Ch.nil (Fin.go (Tr.ret (Fin.ret1 rfl (OutW.bse _ _) rfl ?_)))))))))))
 · refine bool_eq ?_; symm; rw [decide_eq_true_eq]; exact sameA hll hinv_k
set_option maxRecDepth 20000 in
theorem w_R3Same {a b : Crt}  : Fun Tryz.prog 139 [agg (rowCr a), agg (rowCr b)] (bool (decide (a = b))) := by
 refine Fun.of Tryz.func139 rfl rfl (by exact Nat.le_of_ble_eq_true rfl) fun M0 w0 => ?_
 refine Tr.seq (Tr.reg0 (co rfl (ok_box rfl (VL.le (vl rfl) (agg_cellsP _))) (co rfl (ok_box rfl (VL.le (vl rfl) (agg_cellsP _))) (cm rfl (Ch.nil (Fin.go (Tr.seq (Tr.reg0 (co rfl (kfa rfl fo126_0 rfl rfl) (co rfl (kl1 rfl one3 rfl) (co rfl (kfa rfl fo126_0 rfl rfl) (co rfl (kl1 rfl one3 rfl) (co rfl (ki rfl rfl rfl rfl) ?_)))))))))))))
 refine cm rfl ?_
 refine Ch.cs 10 rfl ?_ ?_ <;> intro h1 q1
 refine cy h1 rfl (kfa rfl fo126_1 rfl rfl) (cy h1 rfl (kl1 rfl one9 rfl) (cy h1 rfl (kfa rfl fo126_1 rfl rfl) (cy h1 rfl (kl1 rfl one9 rfl) (cy h1 rfl (ok_eqs rfl (vl rfl) (vl rfl)) (co rfl (kpt rfl rfl h1 rfl) (cm rfl ?_))))))
 refine Ch.cs 17 rfl ?_ ?_ <;> intro h2 q2
 refine cy h2 rfl (kfa rfl fo126_2 rfl rfl) (cy h2 rfl (kl1 rfl one9 rfl) (cy h2 rfl (kfa rfl fo126_2 rfl rfl) (cy h2 rfl (kl1 rfl one9 rfl) (cy h2 rfl (ok_eqs rfl (vl rfl) (vl rfl)) (co rfl (kpt rfl rfl h2 rfl) (cm rfl ?_))))))
 refine Ch.cs 24 rfl ?_ ?_ <;> intro h3 q3
 refine cy h3 rfl (kfa rfl fo126_3 rfl rfl) (cy h3 rfl (ok_loadA rfl agg44 sz44 (vl rfl) rfl rfl) (cy h3 rfl (kfa rfl fo126_3 rfl rfl) (cy h3 rfl (ok_loadA rfl agg44 sz44 (vl rfl) rfl rfl) (cy h3 rfl (ok_eq44 rfl (vl rfl) (vl rfl)) (co rfl (kpt rfl rfl h3 rfl) (cm rfl ?_))))))
 refine Ch.cs 31 rfl ?_ ?_ <;> intro h4 q4
 refine cy h4 rfl (kfa rfl fo126_4 rfl rfl) (cy h4 rfl (kl1 rfl one3 rfl) (cy h4 rfl (kfa rfl fo126_4 rfl rfl) (cy h4 rfl (kl1 rfl one3 rfl) (cy h4 rfl (ki rfl rfl rfl rfl) (co rfl (kpt rfl rfl h4 rfl) (cm rfl ?_))))))
 refine Ch.cs 38 rfl ?_ ?_ <;> intro h5 q5
 refine cy h5 rfl (kfa rfl fo126_5 rfl rfl) (cy h5 rfl (ok_loadA rfl agg44 sz44 (vl rfl) rfl rfl) (cy h5 rfl (kfa rfl fo126_5 rfl rfl) (cy h5 rfl (ok_loadA rfl agg44 sz44 (vl rfl) rfl rfl) (cy h5 rfl (ok_eq44 rfl (vl rfl) (vl rfl)) (co rfl (kpt rfl rfl h5 rfl) (cm rfl ?_))))))
 refine Ch.cs 45 rfl ?_ ?_ <;> intro h6 q6
 refine cy h6 rfl (kfa rfl fo126_6 rfl rfl) (cy h6 rfl (kl1 rfl one3 rfl) (cy h6 rfl (kfa rfl fo126_6 rfl rfl) (cy h6 rfl (kl1 rfl one3 rfl) (cy h6 rfl (ki rfl rfl rfl rfl) (co rfl (kpt rfl rfl h6 rfl) (cm rfl ?_))))))
 refine Ch.cs 52 rfl ?_ ?_ <;> intro h7 q7
 refine cy h7 rfl (kfa rfl fo126_7 rfl rfl) (cy h7 rfl (kl1 rfl one3 rfl) (cy h7 rfl (kfa rfl fo126_7 rfl rfl) (cy h7 rfl (kl1 rfl one3 rfl) (cy h7 rfl (ki rfl rfl rfl rfl) (co rfl (kpt rfl rfl h7 rfl) (cm rfl ?_))))))
 refine Ch.cs 59 rfl ?_ ?_ <;> intro h8 q8
 refine cy h8 rfl (kfa rfl fo126_8 rfl rfl) (cy h8 rfl (kl1 rfl one4 rfl) (cy h8 rfl (kfa rfl fo126_8 rfl rfl) (cy h8 rfl (kl1 rfl one4 rfl) (cy h8 rfl (ok_eqb rfl Tryz.underlying4 (vl rfl) (vl rfl)) (co rfl (kpt rfl rfl h8 rfl) (cm rfl ?_))))))
 refine Ch.cs 66 rfl ?_ ?_ <;> intro h9 q9
 refine cy h9 rfl (kfa rfl fo126_9 rfl rfl) (cy h9 rfl (kl1 rfl one3 rfl) (cy h9 rfl (kfa rfl fo126_9 rfl rfl) (cy h9 rfl (kl1 rfl one3 rfl) (cy h9 rfl (ki rfl rfl rfl rfl) (co rfl (kpt rfl rfl h9 rfl) (cm rfl ?_))))))
 refine Ch.cs 73 rfl ?_ ?_ <;> intro h10 q10
 refine cy h10 rfl (kfa rfl fo126_10 rfl rfl) (cy h10 rfl (kl1 rfl one83 rfl) (cy h10 rfl (kfa rfl fo126_10 rfl rfl) (cy h10 rfl (kl1 rfl one83 rfl) (cy h10 rfl (ok_call rfl (w_SameTexts) ⟨ke rfl, ke rfl, trivial⟩) (co rfl (kpt rfl rfl h10 rfl) (cm rfl ?_))))))
 refine Ch.cs 80 rfl ?_ ?_ <;> intro h11 q11
 refine cy h11 rfl (kfa rfl fo126_11 rfl rfl) (cy h11 rfl (ok_loadA rfl agg124 sz124 (vl rfl) rfl rfl) (cy h11 rfl (kfa rfl fo126_11 rfl rfl) (cy h11 rfl (ok_loadA rfl agg124 sz124 (vl rfl) rfl rfl) (cy h11 rfl (ok_eq124 rfl (vl rfl) (vl rfl)) (co rfl (kpt rfl rfl h11 rfl) (cm rfl (Ch.nil (Fin.go (wk1 4 rfl (Tr.ret (Fin.ret1 rfl (OutW.bse _ _) rfl ?_)))))))))))
 · refine bool_eq ?_; cases a; cases b; simp_all
 iterate 5 refine cnt h11 rfl ?_
 refine co rfl (kpf rfl rfl h11 rfl) (cm rfl (Ch.nil (Fin.go (wk1 4 rfl (Tr.ret (Fin.ret1 rfl (OutW.bse _ _) rfl ?_))))))
 · refine bool_eq ?_; cases a; cases b; simp_all
 iterate 5 refine cnt h10 rfl ?_
 refine co rfl (kpf rfl rfl h10 rfl) (cm rfl ?_)
 iterate 5 refine cnd rfl rfl ?_
 refine co rfl (kpf rfl rfl rfl rfl) (cm rfl (Ch.nil (Fin.go (wk1 4 rfl (Tr.ret (Fin.ret1 rfl (OutW.bse _ _) rfl ?_))))))
 · refine bool_eq ?_; cases a; cases b; simp_all
 iterate 5 refine cnt h9 rfl ?_
 refine co rfl (kpf rfl rfl h9 rfl) (cm rfl ?_)
 iterate 5 refine cnd rfl rfl ?_
 refine co rfl (kpf rfl rfl rfl rfl) (cm rfl ?_)
 iterate 5 refine cnd rfl rfl ?_
 refine co rfl (kpf rfl rfl rfl rfl) (cm rfl (Ch.nil (Fin.go (wk1 4 rfl (Tr.ret (Fin.ret1 rfl (OutW.bse _ _) rfl ?_))))))
 · refine bool_eq ?_; cases a; cases b; simp_all
 iterate 5 refine cnt h8 rfl ?_
 refine co rfl (kpf rfl rfl h8 rfl) (cm rfl ?_)
 iterate 5 refine cnd rfl rfl ?_
 refine co rfl (kpf rfl rfl rfl rfl) (cm rfl ?_)
 iterate 5 refine cnd rfl rfl ?_
 refine co rfl (kpf rfl rfl rfl rfl) (cm rfl ?_)
 iterate 5 refine cnd rfl rfl ?_
 refine co rfl (kpf rfl rfl rfl rfl) (cm rfl (Ch.nil (Fin.go (wk1 4 rfl (Tr.ret (Fin.ret1 rfl (OutW.bse _ _) rfl ?_))))))
 · refine bool_eq ?_; cases a; cases b; simp_all
 iterate 5 refine cnt h7 rfl ?_
 refine co rfl (kpf rfl rfl h7 rfl) (cm rfl ?_)
 iterate 5 refine cnd rfl rfl ?_
 refine co rfl (kpf rfl rfl rfl rfl) (cm rfl ?_)
 iterate 5 refine cnd rfl rfl ?_
 refine co rfl (kpf rfl rfl rfl rfl) (cm rfl ?_)
 iterate 5 refine cnd rfl rfl ?_
 refine co rfl (kpf rfl rfl rfl rfl) (cm rfl ?_)
 iterate 5 refine cnd rfl rfl ?_
 refine co rfl (kpf rfl rfl rfl rfl) (cm rfl (Ch.nil (Fin.go (wk1 4 rfl (Tr.ret (Fin.ret1 rfl (OutW.bse _ _) rfl ?_))))))
 · refine bool_eq ?_; cases a; cases b; simp_all
 iterate 5 refine cnt h6 rfl ?_
 refine co rfl (kpf rfl rfl h6 rfl) (cm rfl ?_)
 iterate 5 refine cnd rfl rfl ?_
 refine co rfl (kpf rfl rfl rfl rfl) (cm rfl ?_)
 iterate 5 refine cnd rfl rfl ?_
 refine co rfl (kpf rfl rfl rfl rfl) (cm rfl ?_)
 iterate 5 refine cnd rfl rfl ?_
 refine co rfl (kpf rfl rfl rfl rfl) (cm rfl ?_)
 iterate 5 refine cnd rfl rfl ?_
 refine co rfl (kpf rfl rfl rfl rfl) (cm rfl ?_)
 iterate 5 refine cnd rfl rfl ?_
 refine co rfl (kpf rfl rfl rfl rfl) (cm rfl (Ch.nil (Fin.go (wk1 4 rfl (Tr.ret (Fin.ret1 rfl (OutW.bse _ _) rfl ?_))))))
 · refine bool_eq ?_; cases a; cases b; simp_all
 iterate 5 refine cnt h5 rfl ?_
 refine co rfl (kpf rfl rfl h5 rfl) (cm rfl ?_)
 iterate 5 refine cnd rfl rfl ?_
 refine co rfl (kpf rfl rfl rfl rfl) (cm rfl ?_)
 iterate 5 refine cnd rfl rfl ?_
 refine co rfl (kpf rfl rfl rfl rfl) (cm rfl ?_)
 iterate 5 refine cnd rfl rfl ?_
 refine co rfl (kpf rfl rfl rfl rfl) (cm rfl ?_)
 iterate 5 refine cnd rfl rfl ?_
 refine co rfl (kpf rfl rfl rfl rfl) (cm rfl ?_)
 iterate 5 refine cnd rfl rfl ?_
 refine co rfl (kpf rfl rfl rfl rfl) (cm rfl ?_)
 iterate 5 refine cnd rfl rfl ?_
 refine co rfl (kpf rfl rfl rfl rfl) (cm rfl (Ch.nil (Fin.go (wk1 4 rfl (Tr.ret (Fin.ret1 rfl (OutW.bse _ _) rfl ?_))))))
 · refine bool_eq ?_; cases a; cases b; simp_all
 iterate 5 refine cnt h4 rfl ?_
 refine co rfl (kpf rfl rfl h4 rfl) (cm rfl ?_)
 iterate 5 refine cnd rfl rfl ?_
 refine co rfl (kpf rfl rfl rfl rfl) (cm rfl ?_)
 iterate 5 refine cnd rfl rfl ?_
 refine co rfl (kpf rfl rfl rfl rfl) (cm rfl ?_)
 iterate 5 refine cnd rfl rfl ?_
 refine co rfl (kpf rfl rfl rfl rfl) (cm rfl ?_)
 iterate 5 refine cnd rfl rfl ?_
 refine co rfl (kpf rfl rfl rfl rfl) (cm rfl ?_)
 iterate 5 refine cnd rfl rfl ?_
 refine co rfl (kpf rfl rfl rfl rfl) (cm rfl ?_)
 iterate 5 refine cnd rfl rfl ?_
 refine co rfl (kpf rfl rfl rfl rfl) (cm rfl ?_)
 iterate 5 refine cnd rfl rfl ?_
 refine co rfl (kpf rfl rfl rfl rfl) (cm rfl (Ch.nil (Fin.go (wk1 4 rfl (Tr.ret (Fin.ret1 rfl (OutW.bse _ _) rfl ?_))))))
 · refine bool_eq ?_; cases a; cases b; simp_all
 iterate 5 refine cnt h3 rfl ?_
 refine co rfl (kpf rfl rfl h3 rfl) (cm rfl ?_)
 iterate 5 refine cnd rfl rfl ?_
 refine co rfl (kpf rfl rfl rfl rfl) (cm rfl ?_)
 iterate 5 refine cnd rfl rfl ?_
 refine co rfl (kpf rfl rfl rfl rfl) (cm rfl ?_)
 iterate 5 refine cnd rfl rfl ?_
 refine co rfl (kpf rfl rfl rfl rfl) (cm rfl ?_)
 iterate 5 refine cnd rfl rfl ?_
 refine co rfl (kpf rfl rfl rfl rfl) (cm rfl ?_)
 iterate 5 refine cnd rfl rfl ?_
 refine co rfl (kpf rfl rfl rfl rfl) (cm rfl ?_)
 iterate 5 refine cnd rfl rfl ?_
 refine co rfl (kpf rfl rfl rfl rfl) (cm rfl ?_)
 iterate 5 refine cnd rfl rfl ?_
 refine co rfl (kpf rfl rfl rfl rfl) (cm rfl ?_)
 iterate 5 refine cnd rfl rfl ?_
 refine co rfl (kpf rfl rfl rfl rfl) (cm rfl (Ch.nil (Fin.go (wk1 4 rfl (Tr.ret (Fin.ret1 rfl (OutW.bse _ _) rfl ?_))))))
 · refine bool_eq ?_; cases a; cases b; simp_all
 iterate 5 refine cnt h2 rfl ?_
 refine co rfl (kpf rfl rfl h2 rfl) (cm rfl ?_)
 iterate 5 refine cnd rfl rfl ?_
 refine co rfl (kpf rfl rfl rfl rfl) (cm rfl ?_)
 iterate 5 refine cnd rfl rfl ?_
 refine co rfl (kpf rfl rfl rfl rfl) (cm rfl ?_)
 iterate 5 refine cnd rfl rfl ?_
 refine co rfl (kpf rfl rfl rfl rfl) (cm rfl ?_)
 iterate 5 refine cnd rfl rfl ?_
 refine co rfl (kpf rfl rfl rfl rfl) (cm rfl ?_)
 iterate 5 refine cnd rfl rfl ?_
 refine co rfl (kpf rfl rfl rfl rfl) (cm rfl ?_)
 iterate 5 refine cnd rfl rfl ?_
 refine co rfl (kpf rfl rfl rfl rfl) (cm rfl ?_)
 iterate 5 refine cnd rfl rfl ?_
 refine co rfl (kpf rfl rfl rfl rfl) (cm rfl ?_)
 iterate 5 refine cnd rfl rfl ?_
 refine co rfl (kpf rfl rfl rfl rfl) (cm rfl ?_)
 iterate 5 refine cnd rfl rfl ?_
 refine co rfl (kpf rfl rfl rfl rfl) (cm rfl (Ch.nil (Fin.go (wk1 4 rfl (Tr.ret (Fin.ret1 rfl (OutW.bse _ _) rfl ?_))))))
 · refine bool_eq ?_; cases a; cases b; simp_all
 iterate 5 refine cnt h1 rfl ?_
 refine co rfl (kpf rfl rfl h1 rfl) (cm rfl ?_)
 iterate 5 refine cnd rfl rfl ?_
 refine co rfl (kpf rfl rfl rfl rfl) (cm rfl ?_)
 iterate 5 refine cnd rfl rfl ?_
 refine co rfl (kpf rfl rfl rfl rfl) (cm rfl ?_)
 iterate 5 refine cnd rfl rfl ?_
 refine co rfl (kpf rfl rfl rfl rfl) (cm rfl ?_)
 iterate 5 refine cnd rfl rfl ?_
 refine co rfl (kpf rfl rfl rfl rfl) (cm rfl ?_)
 iterate 5 refine cnd rfl rfl ?_
 refine co rfl (kpf rfl rfl rfl rfl) (cm rfl ?_)
 iterate 5 refine cnd rfl rfl ?_
 refine co rfl (kpf rfl rfl rfl rfl) (cm rfl ?_)
 iterate 5 refine cnd rfl rfl ?_
 refine co rfl (kpf rfl rfl rfl rfl) (cm rfl ?_)
 iterate 5 refine cnd rfl rfl ?_
 refine co rfl (kpf rfl rfl rfl rfl) (cm rfl ?_)
 iterate 5 refine cnd rfl rfl ?_
 refine co rfl (kpf rfl rfl rfl rfl) (cm rfl ?_)
 iterate 5 refine cnd rfl rfl ?_
 refine co rfl (kpf rfl rfl rfl rfl) (cm rfl (Ch.nil (Fin.go (wk1 4 rfl (Tr.ret (Fin.ret1 rfl (OutW.bse _ _) rfl ?_))))))
 · refine bool_eq ?_; cases a; cases b; simp_all
set_option maxRecDepth 20000 in
theorem w_R3SameChain {a b : List (Crt)}  : Fun Tryz.prog 102 [certs a, certs b] (bool (decide (a = b))) := by
 refine Fun.of Tryz.func102 rfl rfl (by exact Nat.le_of_ble_eq_true rfl) fun M0 w0 => ?_
 refine Tr.lenm 0 rfl fun hlm_0 => (Tr.lenm 1 rfl fun hlm_1 => (Tr.seq (Tr.reg0 (cm rfl (Ch.nil (Fin.go (Tr.seq (Tr.seq (Tr.reg0 (cm rfl (co rfl (ok_lenm rfl Tryz.underlying45 (vl rfl)) (cm rfl (co rfl (ok_lenm rfl Tryz.underlying45 (vl rfl)) ?_)))))))))))))
 refine co rfl (ki rfl rfl rfl rfl) (Ch.nil (Fin.go ?_))
 refine Tr.cn rfl ?_ ?_ <;> intro h1 q1
 have hne : ¬ a.length = b.length := by simp_all; omega
 refine Tr.seq (Tr.reg0 (cm rfl (Ch.nil (Fin.go (Tr.ret (Fin.then_ret (Fin.ret1 rfl (OutW.bse _ _) rfl ?_)))))))
 · refine bool_eq ?_; symm; rw [decide_eq_false_iff_not]; rintro rfl; exact hne rfl
 have hll : a.length = b.length := by simp_all; omega
 refine Tr.skip (Fin.go (Tr.seq (Tr.seq (Tr.reg0 (cm rfl (Ch.nil (Fin.go (Tr.block (Tr.loopw [(0, _), (1, _)] (kk2 rfl) (fun k : Nat => [(5, int ((k : Nat) : Int))]) (fun k : Nat => k ≤ (a).length ∧ (a.take k = b.take k)) (fun k : Nat => (a).length - k) 0 (⟨Nat.zero_le _, rfl⟩) ⟨ke rfl, trivial⟩ ?_)))))))))
 rintro k ⟨hle_k, hinv_k⟩
 refine Tr.seq (Tr.seq (Tr.reg0 (cm rfl (cm rfl (co rfl (ok_lenm rfl Tryz.underlying45 (vl rfl)) (co rfl (ki rfl rfl rfl rfl) (Ch.nil (Fin.go ?_))))))))
 refine Tr.cn rfl ?_ ?_ <;> intro h2 q2
 have hk_k : k < (a).length := lt_of_dec h2
 obtain ⟨x, hx_k⟩ := at_ hk_k
 obtain ⟨y, hy⟩ := at_ (l := b) (k := k) (by omega)
 refine Tr.skip (Fin.go (Tr.seq (Tr.block (Tr.seq (Tr.reg1 mixed (by kernel_rfl) (cm rfl (cm rfl (co rfl (ok_indexAddr rfl Tryz.underlying45 sz126 (vl rfl) (vl rfl) (by omega) (row_at hx_k)) (co rfl (ok_loadA rfl agg126 sz126 (vl rfl) rfl rfl) (cm rfl (cm rfl (co rfl (ok_indexAddr rfl Tryz.underlying45 sz126 (vl rfl) (vl rfl) (by omega) (row_at hy)) (co rfl (ok_loadA rfl agg126 sz126 (vl rfl) rfl rfl) ?_)))))))))))))
 refine co rfl (ok_call rfl (w_R3Same) ⟨ke rfl, ke rfl, trivial⟩) (co rfl (ok_not rfl (vl rfl)) (Ch.nil (Fin.go (wk4 0 1 5 26 rfl ?_))))
 refine Tr.cn rfl ?_ ?_ <;> intro h3 q3
 refine Tr.seq (Tr.reg0 (cm rfl (Ch.nil (Fin.go (Tr.ret (Fin.block_ret (Fin.then_ret (Fin.then_ret (Fin.block_ret (Fin.then_ret (Fin.ret1 rfl (OutW.bse _ _) rfl ?_)))))))))))
 · refine bool_eq ?_; symm; rw [decide_eq_false_iff_not]; refine sameN hx_k hy ?_; rintro rfl; simp_all
 refine Tr.skip (Fin.block (Fin.go (Tr.reg0 (cm rfl (cad rfl rfl rfl rfl (by omega) (cm rfl (Ch.nil (Fin.fam_same (k + 1) ⟨⟨hk_k, sameY hx_k hy hinv_k (by simp_all)⟩, by omega⟩ ⟨⟨_, rfl, int_succ k⟩, ke rfl, ke rfl, trivial⟩))))))))
 have he_k : k = (a).length := by have := ge_of_dec h2; omega
 subst he_k
 refine Tr.exit (Fin.then_exit (Fin.then_exit (Fin.block_here (Fin.go (Tr.seq (Tr.reg0 (cm rfl (Ch.nil (Fin.go (Tr.ret (Fin.ret1 rfl (OutW.bse _ _) rfl ?_)))))))))))
 · refine bool_eq ?_; symm; rw [decide_eq_true_eq]; exact sameA hll hinv_k
set_option maxRecDepth 20000 in
theorem w_R9SameIds {a b : List (Idn)}  : Fun Tryz.prog 61 [idns a, idns b] (bool (decide (a = b))) := by
 refine Fun.of Tryz.func61 rfl rfl (by exact Nat.le_of_ble_eq_true rfl) fun M0 w0 => ?_
 refine Tr.lenm 0 rfl fun hlm_0 => (Tr.lenm 1 rfl fun hlm_1 => (Tr.seq (Tr.reg0 (cm rfl (Ch.nil (Fin.go (Tr.seq (Tr.seq (Tr.reg0 (cm rfl (co rfl (ok_lenm rfl Tryz.underlying33 (vl rfl)) (cm rfl (co rfl (ok_lenm rfl Tryz.underlying33 (vl rfl)) ?_)))))))))))))
 refine co rfl (ki rfl rfl rfl rfl) (Ch.nil (Fin.go ?_))
 refine Tr.cn rfl ?_ ?_ <;> intro h1 q1
 have hne : ¬ a.length = b.length := by simp_all; omega
 refine Tr.seq (Tr.reg0 (cm rfl (Ch.nil (Fin.go (Tr.ret (Fin.then_ret (Fin.ret1 rfl (OutW.bse _ _) rfl ?_)))))))
 · refine bool_eq ?_; symm; rw [decide_eq_false_iff_not]; rintro rfl; exact hne rfl
 have hll : a.length = b.length := by simp_all; omega
 refine Tr.skip (Fin.go (Tr.seq (Tr.seq (Tr.reg0 (cm rfl (Ch.nil (Fin.go (Tr.block (Tr.loopw [(0, _), (1, _)] (kk2 rfl) (fun k : Nat => [(5, int ((k : Nat) : Int))]) (fun k : Nat => k ≤ (a).length ∧ (a.take k = b.take k)) (fun k : Nat => (a).length - k) 0 (⟨Nat.zero_le _, rfl⟩) ⟨ke rfl, trivial⟩ ?_)))))))))
 rintro k ⟨hle_k, hinv_k⟩
 refine Tr.seq (Tr.seq (Tr.reg0 (cm rfl (cm rfl (co rfl (ok_lenm rfl Tryz.underlying33 (vl rfl)) (co rfl (ki rfl rfl rfl rfl) (Ch.nil (Fin.go ?_))))))))
 refine Tr.cn rfl ?_ ?_ <;> intro h2 q2
 have hk_k : k < (a).length := lt_of_dec h2
 obtain ⟨x, hx_k⟩ := at_ hk_k
 obtain ⟨y, hy⟩ := at_ (l := b) (k := k) (by omega)
 refine Tr.skip (Fin.go (Tr.seq (Tr.block (Tr.seq (Tr.reg1 mixed (by kernel_rfl) (cm rfl (cm rfl (co rfl (ok_indexAddr rfl Tryz.underlying33 sz47 (vl rfl) (vl rfl) (by omega) (row_at hx_k)) (co rfl (kfa rfl fo47_0 rfl rfl) (co rfl (ok_loadA rfl agg44 sz44 (vl rfl) rfl rfl) (cm rfl (cm rfl (co rfl (ok_indexAddr rfl Tryz.underlying33 sz47 (vl rfl) (vl rfl) (by omega) (row_at hy)) ?_)))))))))))))
 refine co rfl (kfa rfl fo47_0 rfl rfl) (co rfl (ok_loadA rfl agg44 sz44 (vl rfl) rfl rfl) (co rfl (ok_ne44 rfl (vl rfl) (vl rfl)) (cm rfl ?_)))
 refine Ch.cs 28 rfl ?_ ?_ <;> intro h3 q3
 iterate 11 refine cnf h3 rfl ?_
 refine co rfl (kpt rfl rfl h3 rfl) (cm rfl ?_)
 iterate 12 refine cnd rfl rfl ?_
 refine co rfl (kpt rfl rfl rfl rfl) (Ch.nil (Fin.go (wk4 0 1 5 54 rfl (Tr.cond rfl (fun _ => ?_) (fun h => nomatch h)))))
 refine Tr.seq (Tr.reg0 (cm rfl (Ch.nil (Fin.go (Tr.ret (Fin.block_ret (Fin.then_ret (Fin.then_ret (Fin.block_ret (Fin.then_ret (Fin.ret1 rfl (OutW.bse _ _) rfl ?_)))))))))))
 · refine bool_eq ?_; symm; rw [decide_eq_false_iff_not]; refine sameN hx_k hy ?_; rintro rfl; simp_all
 refine cym h3 rfl (cym h3 rfl (cy h3 rfl (ok_indexAddr rfl Tryz.underlying33 sz47 (vl rfl) (vl rfl) (by omega) (row_at hx_k)) (cy h3 rfl (kfa rfl fo47_1 rfl rfl) (cy h3 rfl (kl1 rfl one3 rfl) (cym h3 rfl (cym h3 rfl (cy h3 rfl (ok_indexAddr rfl Tryz.underlying33 sz47 (vl rfl) (vl rfl) (by omega) (row_at hy)) (cy h3 rfl (kfa rfl fo47_1 rfl rfl) (cy h3 rfl (kl1 rfl one3 rfl) (cy h3 rfl (ki rfl rfl rfl rfl) (co rfl (kpf rfl rfl h3 rfl) (cm rfl ?_))))))))))))
 refine Ch.cs 41 rfl ?_ ?_ <;> intro h4 q4
 iterate 12 refine cnf h4 rfl ?_
 refine co rfl (kpt rfl rfl h4 rfl) (Ch.nil (Fin.go (wk4 0 1 5 54 rfl (Tr.cond rfl (fun _ => ?_) (fun h => nomatch h)))))
 refine Tr.seq (Tr.reg0 (cm rfl (Ch.nil (Fin.go (Tr.ret (Fin.block_ret (Fin.then_ret (Fin.then_ret (Fin.block_ret (Fin.then_ret (Fin.ret1 rfl (OutW.bse _ _) rfl ?_)))))))))))
 · refine bool_eq ?_; symm; rw [decide_eq_false_iff_not]; refine sameN hx_k hy ?_; rintro rfl; simp_all
 refine cym h4 rfl (cym h4 rfl (cy h4 rfl (ok_indexAddr rfl Tryz.underlying33 sz47 (vl rfl) (vl rfl) (by omega) (row_at hx_k)) (cy h4 rfl (kfa rfl fo47_2 rfl rfl) (cy h4 rfl (kl1 rfl one45 rfl) (cym h4 rfl (cym h4 rfl (cy h4 rfl (ok_indexAddr rfl Tryz.underlying33 sz47 (vl rfl) (vl rfl) (by omega) (row_at hy)) (cy h4 rfl (kfa rfl fo47_2 rfl rfl) (cy h4 rfl (kl1 rfl one45 rfl) (cy h4 rfl (ok_call rfl (w_R3SameChain) ⟨ke rfl, ke rfl, trivial⟩) (cy h4 rfl (ok_not rfl (vl rfl)) (co rfl (kpf rfl rfl h4 rfl) (Ch.nil (Fin.go ?_))))))))))))))
 refine wk4 0 1 5 54 rfl ?_
 refine Tr.cn rfl ?_ ?_ <;> intro h5 q5
 refine Tr.seq (Tr.reg0 (cm rfl (Ch.nil (Fin.go (Tr.ret (Fin.block_ret (Fin.then_ret (Fin.then_ret (Fin.block_ret (Fin.then_ret (Fin.ret1 rfl (OutW.bse _ _) rfl ?_)))))))))))
 · refine bool_eq ?_; symm; rw [decide_eq_false_iff_not]; refine sameN hx_k hy ?_; rintro rfl; simp_all
 refine Tr.skip (Fin.block (Fin.go (Tr.reg0 (cm rfl (cad rfl rfl rfl rfl (by omega) (cm rfl (Ch.nil ?_)))))))
 exact Fin.fam_same (k + 1) ⟨⟨hk_k, sameY hx_k hy hinv_k (by cases x; cases y; simp_all)⟩, by omega⟩ ⟨⟨_, rfl, int_succ k⟩, ke rfl, ke rfl, trivial⟩
 have he_k : k = (a).length := by have := ge_of_dec h2; omega
 subst he_k
 refine Tr.exit (Fin.then_exit (Fin.then_exit (Fin.block_here (Fin.go (Tr.seq (Tr.reg0 (cm rfl (Ch.nil (Fin.go (Tr.ret (Fin.ret1 rfl (OutW.bse _ _) rfl ?_)))))))))))
 · refine bool_eq ?_; symm; rw [decide_eq_true_eq]; exact sameA hll hinv_k
set_option maxRecDepth 20000 in
theorem w_R9Same {a b : Ept}  : Fun Tryz.prog 18 [agg (rowEp a), agg (rowEp b)] (bool (decide (a = b))) := by
 refine Fun.of Tryz.func18 rfl rfl (by exact Nat.le_of_ble_eq_true rfl) fun M0 w0 => ?_
 refine Tr.seq (Tr.reg0 (co rfl (ok_box rfl (VL.le (vl rfl) (agg_cellsP _))) (co rfl (ok_box rfl (VL.le (vl rfl) (agg_cellsP _))) (cm rfl (Ch.nil (Fin.go (Tr.seq (Tr.reg0 (co rfl (kfa rfl fo35_0 rfl rfl) (co rfl (kl1 rfl one9 rfl) (co rfl (kfa rfl fo35_0 rfl rfl) (co rfl (kl1 rfl one9 rfl) (co rfl (ok_eqs rfl (vl rfl) (vl rfl)) ?_)))))))))))))
 refine cm rfl ?_
 refine Ch.cs 10 rfl ?_ ?_ <;> intro h1 q1
 refine cy h1 rfl (kfa rfl fo35_1 rfl rfl) (cy h1 rfl (kl1 rfl one3 rfl) (cy h1 rfl (kfa rfl fo35_1 rfl rfl) (cy h1 rfl (kl1 rfl one3 rfl) (cy h1 rfl (ki rfl rfl rfl rfl) (co rfl (kpt rfl rfl h1 rfl) (cm rfl ?_))))))
 refine Ch.cs 17 rfl ?_ ?_ <;> intro h2 q2
 refine cy h2 rfl (kfa rfl fo35_2 rfl rfl) (cy h2 rfl (kl1 rfl one3 rfl) (cy h2 rfl (kfa rfl fo35_2 rfl rfl) (cy h2 rfl (kl1 rfl one3 rfl) (cy h2 rfl (ki rfl rfl rfl rfl) (co rfl (kpt rfl rfl h2 rfl) (cm rfl ?_))))))
 refine Ch.cs 24 rfl ?_ ?_ <;> intro h3 q3
 refine cy h3 rfl (kfa rfl fo35_3 rfl rfl) (cy h3 rfl (kl1 rfl one22 rfl) (cy h3 rfl (kfa rfl fo35_3 rfl rfl) (cy h3 rfl (kl1 rfl one22 rfl) (cy h3 rfl (ok_call rfl (w_SameInts) ⟨ke rfl, ke rfl, trivial⟩) (co rfl (kpt rfl rfl h3 rfl) (cm rfl ?_))))))
 refine Ch.cs 31 rfl ?_ ?_ <;> intro h4 q4
 refine cy h4 rfl (kfa rfl fo35_4 rfl rfl) (cy h4 rfl (kl1 rfl one4 rfl) (cy h4 rfl (kfa rfl fo35_4 rfl rfl) (cy h4 rfl (kl1 rfl one4 rfl) (cy h4 rfl (ok_eqb rfl Tryz.underlying4 (vl rfl) (vl rfl)) (co rfl (kpt rfl rfl h4 rfl) (cm rfl ?_))))))
 refine Ch.cs 38 rfl ?_ ?_ <;> intro h5 q5
 refine cy h5 rfl (kfa rfl fo35_5 rfl rfl) (cy h5 rfl (kl1 rfl one33 rfl) (cy h5 rfl (kfa rfl fo35_5 rfl rfl) (cy h5 rfl (kl1 rfl one33 rfl) (cy h5 rfl (ok_call rfl (w_R9SameIds) ⟨ke rfl, ke rfl, trivial⟩) (co rfl (kpt rfl rfl h5 rfl) (cm rfl ?_))))))
 refine Ch.cs 45 rfl ?_ ?_ <;> intro h6 q6
 refine cy h6 rfl (kfa rfl fo35_6 rfl rfl) (cy h6 rfl (kl1 rfl one22 rfl) (cy h6 rfl (kfa rfl fo35_6 rfl rfl) (cy h6 rfl (kl1 rfl one22 rfl) (cy h6 rfl (ok_call rfl (w_SameInts) ⟨ke rfl, ke rfl, trivial⟩) (co rfl (kpt rfl rfl h6 rfl) (cm rfl ?_))))))
 refine Ch.cs 52 rfl ?_ ?_ <;> intro h7 q7
 refine cy h7 rfl (kfa rfl fo35_7 rfl rfl) (cy h7 rfl (kl1 rfl one22 rfl) (cy h7 rfl (kfa rfl fo35_7 rfl rfl) (cy h7 rfl (kl1 rfl one22 rfl) (cy h7 rfl (ok_call rfl (w_SameInts) ⟨ke rfl, ke rfl, trivial⟩) (co rfl (kpt rfl rfl h7 rfl) (cm rfl ?_))))))
 refine Ch.cs 59 rfl ?_ ?_ <;> intro h8 q8
 refine cy h8 rfl (kfa rfl fo35_8 rfl rfl) (cy h8 rfl (kl1 rfl one4 rfl) (cy h8 rfl (kfa rfl fo35_8 rfl rfl) (cy h8 rfl (kl1 rfl one4 rfl) (cy h8 rfl (ok_eqb rfl Tryz.underlying4 (vl rfl) (vl rfl)) (co rfl (kpt rfl rfl h8 rfl) (cm rfl (Ch.nil (Fin.go (wk1 4 rfl (Tr.ret (Fin.ret1 rfl (OutW.bse _ _) rfl ?_)))))))))))
 · refine bool_eq ?_; cases a; cases b; simp_all [Bool.beq_eq_decide_eq]
 iterate 5 refine cnt h8 rfl ?_
 refine co rfl (kpf rfl rfl h8 rfl) (cm rfl (Ch.nil (Fin.go (wk1 4 rfl (Tr.ret (Fin.ret1 rfl (OutW.bse _ _) rfl ?_))))))
 · refine bool_eq ?_; cases a; cases b; simp_all [Bool.beq_eq_decide_eq]
 iterate 5 refine cnt h7 rfl ?_
 refine co rfl (kpf rfl rfl h7 rfl) (cm rfl ?_)
 iterate 5 refine cnd rfl rfl ?_
 refine co rfl (kpf rfl rfl rfl rfl) (cm rfl (Ch.nil (Fin.go (wk1 4 rfl (Tr.ret (Fin.ret1 rfl (OutW.bse _ _) rfl ?_))))))
 · refine bool_eq ?_; cases a; cases b; simp_all [Bool.beq_eq_decide_eq]
 iterate 5 refine cnt h6 rfl ?_
 refine co rfl (kpf rfl rfl h6 rfl) (cm rfl ?_)
 iterate 5 refine cnd rfl rfl ?_
 refine co rfl (kpf rfl rfl rfl rfl) (cm rfl ?_)
 iterate 5 refine cnd rfl rfl ?_
 refine co rfl (kpf rfl rfl rfl rfl) (cm rfl (Ch.nil (Fin.go (wk1 4 rfl (Tr.ret (Fin.ret1 rfl (OutW.bse _ _) rfl ?_))))))
 · refine bool_eq ?_; cases a; cases b; simp_all [Bool.beq_eq_decide_eq]
 iterate 5 refine cnt h5 rfl ?_
 refine co rfl (kpf rfl rfl h5 rfl) (cm rfl ?_)
 iterate 5 refine cnd rfl rfl ?_
 refine co rfl (kpf rfl rfl rfl rfl) (cm rfl ?_)
 iterate 5 refine cnd rfl rfl ?_
 refine co rfl (kpf rfl rfl rfl rfl) (cm rfl ?_)
 iterate 5 refine cnd rfl rfl ?_
 refine co rfl (kpf rfl rfl rfl rfl) (cm rfl (Ch.nil (Fin.go (wk1 4 rfl (Tr.ret (Fin.ret1 rfl (OutW.bse _ _) rfl ?_))))))
 · refine bool_eq ?_; cases a; cases b; simp_all [Bool.beq_eq_decide_eq]
 iterate 5 refine cnt h4 rfl ?_
 refine co rfl (kpf rfl rfl h4 rfl) (cm rfl ?_)
 iterate 5 refine cnd rfl rfl ?_
 refine co rfl (kpf rfl rfl rfl rfl) (cm rfl ?_)
 iterate 5 refine cnd rfl rfl ?_
 refine co rfl (kpf rfl rfl rfl rfl) (cm rfl ?_)
 iterate 5 refine cnd rfl rfl ?_
 refine co rfl (kpf rfl rfl rfl rfl) (cm rfl ?_)
 iterate 5 refine cnd rfl rfl ?_
 refine co rfl (kpf rfl rfl rfl rfl) (cm rfl (Ch.nil (Fin.go (wk1 4 rfl (Tr.ret (Fin.ret1 rfl (OutW.bse _ _) rfl ?_))))))
 · refine bool_eq ?_; cases a; cases b; simp_all [Bool.beq_eq_decide_eq]
 iterate 5 refine cnt h3 rfl ?_
 refine co rfl (kpf rfl rfl h3 rfl) (cm rfl ?_)
 iterate 5 refine cnd rfl rfl ?_
 refine co rfl (kpf rfl rfl rfl rfl) (cm rfl ?_)
 iterate 5 refine cnd rfl rfl ?_
 refine co rfl (kpf rfl rfl rfl rfl) (cm rfl ?_)
 iterate 5 refine cnd rfl rfl ?_
 refine co rfl (kpf rfl rfl rfl rfl) (cm rfl ?_)
 iterate 5 refine cnd rfl rfl ?_
 refine co rfl (kpf rfl rfl rfl rfl) (cm rfl ?_)
 iterate 5 refine cnd rfl rfl ?_
 refine co rfl (kpf rfl rfl rfl rfl) (cm rfl (Ch.nil (Fin.go (wk1 4 rfl (Tr.ret (Fin.ret1 rfl (OutW.bse _ _) rfl ?_))))))
 · refine bool_eq ?_; cases a; cases b; simp_all [Bool.beq_eq_decide_eq]
 iterate 5 refine cnt h2 rfl ?_
 refine co rfl (kpf rfl rfl h2 rfl) (cm rfl ?_)
 iterate 5 refine cnd rfl rfl ?_
 refine co rfl (kpf rfl rfl rfl rfl) (cm rfl ?_)
 iterate 5 refine cnd rfl rfl ?_
 refine co rfl (kpf rfl rfl rfl rfl) (cm rfl ?_)
 iterate 5 refine cnd rfl rfl ?_
 refine co rfl (kpf rfl rfl rfl rfl) (cm rfl ?_)
 iterate 5 refine cnd rfl rfl ?_
 refine co rfl (kpf rfl rfl rfl rfl) (cm rfl ?_)
 iterate 5 refine cnd rfl rfl ?_
 refine co rfl (kpf rfl rfl rfl rfl) (cm rfl ?_)
 iterate 5 refine cnd rfl rfl ?_
 refine co rfl (kpf rfl rfl rfl rfl) (cm rfl (Ch.nil (Fin.go (wk1 4 rfl (Tr.ret (Fin.ret1 rfl (OutW.bse _ _) rfl ?_))))))
 · refine bool_eq ?_; cases a; cases b; simp_all [Bool.beq_eq_decide_eq]
 iterate 5 refine cnt h1 rfl ?_
 refine co rfl (kpf rfl rfl h1 rfl) (cm rfl ?_)
 iterate 5 refine cnd rfl rfl ?_
 refine co rfl (kpf rfl rfl rfl rfl) (cm rfl ?_)
 iterate 5 refine cnd rfl rfl ?_
 refine co rfl (kpf rfl rfl rfl rfl) (cm rfl ?_)
 iterate 5 refine cnd rfl rfl ?_
 refine co rfl (kpf rfl rfl rfl rfl) (cm rfl ?_)
 iterate 5 refine cnd rfl rfl ?_
 refine co rfl (kpf rfl rfl rfl rfl) (cm rfl ?_)
 iterate 5 refine cnd rfl rfl ?_
 refine co rfl (kpf rfl rfl rfl rfl) (cm rfl ?_)
 iterate 5 refine cnd rfl rfl ?_
 refine co rfl (kpf rfl rfl rfl rfl) (cm rfl ?_)
 iterate 5 refine cnd rfl rfl ?_
 refine co rfl (kpf rfl rfl rfl rfl) (cm rfl (Ch.nil (Fin.go (wk1 4 rfl (Tr.ret (Fin.ret1 rfl (OutW.bse _ _) rfl ?_))))))
 · refine bool_eq ?_; cases a; cases b; simp_all [Bool.beq_eq_decide_eq]
set_option maxRecDepth 20000 in
theorem w_R24SameC {a b : Crt} (hn : a.names.length ≤ 1000000) : Fun Tryz.prog 114 [agg (rowCr a), agg (rowCr b)] (bool (decide (a = b))) := by
 refine Fun.of Tryz.func114 rfl rfl (by exact Nat.le_of_ble_eq_true rfl) fun M0 w0 => ?_
 refine Tr.seq (Tr.reg0 (co rfl (ok_box rfl (VL.le (vl rfl) (agg_cellsP _))) (co rfl (ok_box rfl (VL.le (vl rfl) (agg_cellsP _))) (cm rfl (Ch.nil (Fin.go (Tr.seq (Tr.seq (Tr.reg0 (co rfl (kfa rfl fo126_0 rfl rfl) (co rfl (kl1 rfl one3 rfl) (co rfl (kfa rfl fo126_0 rfl rfl) (co rfl (kl1 rfl one3 rfl) ?_)))))))))))))
 refine co rfl (ki rfl rfl rfl rfl) (cm rfl ?_)
 refine Ch.cs 11 rfl ?_ ?_ <;> intro h1 q1
 iterate 5 refine cnf h1 rfl ?_
 refine co rfl (kpt rfl rfl h1 rfl) (cm rfl ?_)
 iterate 5 refine cnd rfl rfl ?_
 refine co rfl (kpt rfl rfl rfl rfl) (cm rfl ?_)
 iterate 5 refine cnd rfl rfl ?_
 refine co rfl (kpt rfl rfl rfl rfl) (cm rfl ?_)
 iterate 5 refine cnd rfl rfl ?_
 refine co rfl (kpt rfl rfl rfl rfl) (cm rfl ?_)
 iterate 5 refine cnd rfl rfl ?_
 refine co rfl (kpt rfl rfl rfl rfl) (cm rfl ?_)
 iterate 5 refine cnd rfl rfl ?_
 refine co rfl (kpt rfl rfl rfl rfl) (cm rfl ?_)
 iterate 5 refine cnd rfl rfl ?_
 refine co rfl (kpt rfl rfl rfl rfl) (cm rfl ?_)
 iterate 5 refine cnd rfl rfl ?_
 refine co rfl (kpt rfl rfl rfl rfl) (cm rfl ?_)
 iterate 5 refine cnd rfl rfl ?_
 refine co rfl (kpt rfl rfl rfl rfl) (cm rfl ?_)
 iterate 5 refine cnd rfl rfl ?_
 refine co rfl (kpt rfl rfl rfl rfl) (cm rfl ?_)
 iterate 7 refine cnd rfl rfl ?_
 refine co rfl (kpt rfl rfl rfl rfl) (Ch.nil (Fin.go (wk3 2 3 89 rfl (Tr.cond rfl (fun _ => ?_) (fun h => nomatch h)))))
 refine Tr.seq (Tr.reg0 (cm rfl (Ch.nil (Fin.go (Tr.ret (Fin.then_ret (Fin.ret1 rfl (OutW.bse _ _) rfl ?_)))))))
 · refine bool_eq ?_; symm; rw [decide_eq_false_iff_not]; rintro rfl; simp_all
 refine cy h1 rfl (kfa rfl fo126_1 rfl rfl) (cy h1 rfl (kl1 rfl one9 rfl) (cy h1 rfl (kfa rfl fo126_1 rfl rfl) (cy h1 rfl (kl1 rfl one9 rfl) (cy h1 rfl (ok_nes rfl (vl rfl) (vl rfl)) (co rfl (kpf rfl rfl h1 rfl) (cm rfl ?_))))))
 refine Ch.cs 18 rfl ?_ ?_ <;> intro h2 q2
 iterate 5 refine cnf h2 rfl ?_
 refine co rfl (kpt rfl rfl h2 rfl) (cm rfl ?_)
 iterate 5 refine cnd rfl rfl ?_
 refine co rfl (kpt rfl rfl rfl rfl) (cm rfl ?_)
 iterate 5 refine cnd rfl rfl ?_
 refine co rfl (kpt rfl rfl rfl rfl) (cm rfl ?_)
 iterate 5 refine cnd rfl rfl ?_
 refine co rfl (kpt rfl rfl rfl rfl) (cm rfl ?_)
 iterate 5 refine cnd rfl rfl ?_
 refine co rfl (kpt rfl rfl rfl rfl) (cm rfl ?_)
 iterate 5 refine cnd rfl rfl ?_
 refine co rfl (kpt rfl rfl rfl rfl) (cm rfl ?_)
 iterate 5 refine cnd rfl rfl ?_
 refine co rfl (kpt rfl rfl rfl rfl) (cm rfl ?_)
 iterate 5 refine cnd rfl rfl ?_
 refine co rfl (kpt rfl rfl rfl rfl) (cm rfl ?_)
 iterate 5 refine cnd rfl rfl ?_
 refine co rfl (kpt rfl rfl rfl rfl) (cm rfl ?_)
 iterate 7 refine cnd rfl rfl ?_
 refine co rfl (kpt rfl rfl rfl rfl) (Ch.nil (Fin.go (wk3 2 3 89 rfl (Tr.cond rfl (fun _ => ?_) (fun h => nomatch h)))))
 refine Tr.seq (Tr.reg0 (cm rfl (Ch.nil (Fin.go (Tr.ret (Fin.then_ret (Fin.ret1 rfl (OutW.bse _ _) rfl ?_)))))))
 · refine bool_eq ?_; symm; rw [decide_eq_false_iff_not]; rintro rfl; simp_all
 refine cy h2 rfl (kfa rfl fo126_2 rfl rfl) (cy h2 rfl (kl1 rfl one9 rfl) (cy h2 rfl (kfa rfl fo126_2 rfl rfl) (cy h2 rfl (kl1 rfl one9 rfl) (cy h2 rfl (ok_nes rfl (vl rfl) (vl rfl)) (co rfl (kpf rfl rfl h2 rfl) (cm rfl ?_))))))
 refine Ch.cs 25 rfl ?_ ?_ <;> intro h3 q3
 iterate 5 refine cnf h3 rfl ?_
 refine co rfl (kpt rfl rfl h3 rfl) (cm rfl ?_)
 iterate 5 refine cnd rfl rfl ?_
 refine co rfl (kpt rfl rfl rfl rfl) (cm rfl ?_)
 iterate 5 refine cnd rfl rfl ?_
 refine co rfl (kpt rfl rfl rfl rfl) (cm rfl ?_)
 iterate 5 refine cnd rfl rfl ?_
 refine co rfl (kpt rfl rfl rfl rfl) (cm rfl ?_)
 iterate 5 refine cnd rfl rfl ?_
 refine co rfl (kpt rfl rfl rfl rfl) (cm rfl ?_)
 iterate 5 refine cnd rfl rfl ?_
 refine co rfl (kpt rfl rfl rfl rfl) (cm rfl ?_)
 iterate 5 refine cnd rfl rfl ?_
 refine co rfl (kpt rfl rfl rfl rfl) (cm rfl ?_)
 iterate 5 refine cnd rfl rfl ?_
 refine co rfl (kpt rfl rfl rfl rfl) (cm rfl ?_)
 iterate 7 refine cnd rfl rfl ?_
 refine co rfl (kpt rfl rfl rfl rfl) (Ch.nil (Fin.go (wk3 2 3 89 rfl (Tr.cond rfl (fun _ => ?_) (fun h => nomatch h)))))
 refine Tr.seq (Tr.reg0 (cm rfl (Ch.nil (Fin.go (Tr.ret (Fin.then_ret (Fin.ret1 rfl (OutW.bse _ _) rfl ?_)))))))
 · refine bool_eq ?_; symm; rw [decide_eq_false_iff_not]; rintro rfl; simp_all
 refine cy h3 rfl (kfa rfl fo126_3 rfl rfl) (cy h3 rfl (ok_loadA rfl agg44 sz44 (vl rfl) rfl rfl) (cy h3 rfl (kfa rfl fo126_3 rfl rfl) (cy h3 rfl (ok_loadA rfl agg44 sz44 (vl rfl) rfl rfl) (cy h3 rfl (ok_ne44 rfl (vl rfl) (vl rfl)) (co rfl (kpf rfl rfl h3 rfl) (cm rfl ?_))))))
 refine Ch.cs 32 rfl ?_ ?_ <;> intro h4 q4
 iterate 5 refine cnf h4 rfl ?_
 refine co rfl (kpt rfl rfl h4 rfl) (cm rfl ?_)
 iterate 5 refine cnd rfl rfl ?_
 refine co rfl (kpt rfl rfl rfl rfl) (cm rfl ?_)
 iterate 5 refine cnd rfl rfl ?_
 refine co rfl (kpt rfl rfl rfl rfl) (cm rfl ?_)
 iterate 5 refine cnd rfl rfl ?_
 refine co rfl (kpt rfl rfl rfl rfl) (cm rfl ?_)
 iterate 5 refine cnd rfl rfl ?_
 refine co rfl (kpt rfl rfl rfl rfl) (cm rfl ?_)
 iterate 5 refine cnd rfl rfl ?_
 refine co rfl (kpt rfl rfl rfl rfl) (cm rfl ?_)
 iterate 5 refine cnd rfl rfl ?_
 refine co rfl (kpt rfl rfl rfl rfl) (cm rfl ?_)
 iterate 7 refine cnd rfl rfl ?_
 refine co rfl (kpt rfl rfl rfl rfl) (Ch.nil (Fin.go (wk3 2 3 89 rfl (Tr.cond rfl (fun _ => ?_) (fun h => nomatch h)))))
 refine Tr.seq (Tr.reg0 (cm rfl (Ch.nil (Fin.go (Tr.ret (Fin.then_ret (Fin.ret1 rfl (OutW.bse _ _) rfl ?_)))))))
 · refine bool_eq ?_; symm; rw [decide_eq_false_iff_not]; rintro rfl; simp_all
 refine cy h4 rfl (kfa rfl fo126_4 rfl rfl) (cy h4 rfl (kl1 rfl one3 rfl) (cy h4 rfl (kfa rfl fo126_4 rfl rfl) (cy h4 rfl (kl1 rfl one3 rfl) (cy h4 rfl (ki rfl rfl rfl rfl) (co rfl (kpf rfl rfl h4 rfl) (cm rfl ?_))))))
 refine Ch.cs 39 rfl ?_ ?_ <;> intro h5 q5
 iterate 5 refine cnf h5 rfl ?_
 refine co rfl (kpt rfl rfl h5 rfl) (cm rfl ?_)
 iterate 5 refine cnd rfl rfl ?_
 refine co rfl (kpt rfl rfl rfl rfl) (cm rfl ?_)
 iterate 5 refine cnd rfl rfl ?_
 refine co rfl (kpt rfl rfl rfl rfl) (cm rfl ?_)
 iterate 5 refine cnd rfl rfl ?_
 refine co rfl (kpt rfl rfl rfl rfl) (cm rfl ?_)
 iterate 5 refine cnd rfl rfl ?_
 refine co rfl (kpt rfl rfl rfl rfl) (cm rfl ?_)
 iterate 5 refine cnd rfl rfl ?_
 refine co rfl (kpt rfl rfl rfl rfl) (cm rfl ?_)
 iterate 7 refine cnd rfl rfl ?_
 refine co rfl (kpt rfl rfl rfl rfl) (Ch.nil (Fin.go (wk3 2 3 89 rfl (Tr.cond rfl (fun _ => ?_) (fun h => nomatch h)))))
 refine Tr.seq (Tr.reg0 (cm rfl (Ch.nil (Fin.go (Tr.ret (Fin.then_ret (Fin.ret1 rfl (OutW.bse _ _) rfl ?_)))))))
 · refine bool_eq ?_; symm; rw [decide_eq_false_iff_not]; rintro rfl; simp_all
 refine cy h5 rfl (kfa rfl fo126_5 rfl rfl) (cy h5 rfl (ok_loadA rfl agg44 sz44 (vl rfl) rfl rfl) (cy h5 rfl (kfa rfl fo126_5 rfl rfl) (cy h5 rfl (ok_loadA rfl agg44 sz44 (vl rfl) rfl rfl) (cy h5 rfl (ok_ne44 rfl (vl rfl) (vl rfl)) (co rfl (kpf rfl rfl h5 rfl) (cm rfl ?_))))))
 refine Ch.cs 46 rfl ?_ ?_ <;> intro h6 q6
 iterate 5 refine cnf h6 rfl ?_
 refine co rfl (kpt rfl rfl h6 rfl) (cm rfl ?_)
 iterate 5 refine cnd rfl rfl ?_
 refine co rfl (kpt rfl rfl rfl rfl) (cm rfl ?_)
 iterate 5 refine cnd rfl rfl ?_
 refine co rfl (kpt rfl rfl rfl rfl) (cm rfl ?_)
 iterate 5 refine cnd rfl rfl ?_
 refine co rfl (kpt rfl rfl rfl rfl) (cm rfl ?_)
 iterate 5 refine cnd rfl rfl ?_
 refine co rfl (kpt rfl rfl rfl rfl) (cm rfl ?_)
 iterate 7 refine cnd rfl rfl ?_
 refine co rfl (kpt rfl rfl rfl rfl) (Ch.nil (Fin.go (wk3 2 3 89 rfl (Tr.cond rfl (fun _ => ?_) (fun h => nomatch h)))))
 refine Tr.seq (Tr.reg0 (cm rfl (Ch.nil (Fin.go (Tr.ret (Fin.then_ret (Fin.ret1 rfl (OutW.bse _ _) rfl ?_)))))))
 · refine bool_eq ?_; symm; rw [decide_eq_false_iff_not]; rintro rfl; simp_all
 refine cy h6 rfl (kfa rfl fo126_6 rfl rfl) (cy h6 rfl (kl1 rfl one3 rfl) (cy h6 rfl (kfa rfl fo126_6 rfl rfl) (cy h6 rfl (kl1 rfl one3 rfl) (cy h6 rfl (ki rfl rfl rfl rfl) (co rfl (kpf rfl rfl h6 rfl) (cm rfl ?_))))))
 refine Ch.cs 53 rfl ?_ ?_ <;> intro h7 q7
 iterate 5 refine cnf h7 rfl ?_
 refine co rfl (kpt rfl rfl h7 rfl) (cm rfl ?_)
 iterate 5 refine cnd rfl rfl ?_
 refine co rfl (kpt rfl rfl rfl rfl) (cm rfl ?_)
 iterate 5 refine cnd rfl rfl ?_
 refine co rfl (kpt rfl rfl rfl rfl) (cm rfl ?_)
 iterate 5 refine cnd rfl rfl ?_
 refine co rfl (kpt rfl rfl rfl rfl) (cm rfl ?_)
 iterate 7 refine cnd rfl rfl ?_
 refine co rfl (kpt rfl rfl rfl rfl) (Ch.nil (Fin.go (wk3 2 3 89 rfl (Tr.cond rfl (fun _ => ?_) (fun h => nomatch h)))))
 refine Tr.seq (Tr.reg0 (cm rfl (Ch.nil (Fin.go (Tr.ret (Fin.then_ret (Fin.ret1 rfl (OutW.bse _ _) rfl ?_)))))))
 · refine bool_eq ?_; symm; rw [decide_eq_false_iff_not]; rintro rfl; simp_all
 refine cy h7 rfl (kfa rfl fo126_7 rfl rfl) (cy h7 rfl (kl1 rfl one3 rfl) (cy h7 rfl (kfa rfl fo126_7 rfl rfl) (cy h7 rfl (kl1 rfl one3 rfl) (cy h7 rfl (ki rfl rfl rfl rfl) (co rfl (kpf rfl rfl h7 rfl) (cm rfl ?_))))))
 refine Ch.cs 60 rfl ?_ ?_ <;> intro h8 q8
 iterate 5 refine cnf h8 rfl ?_
 refine co rfl (kpt rfl rfl h8 rfl) (cm rfl ?_)
 iterate 5 refine cnd rfl rfl ?_
 refine co rfl (kpt rfl rfl rfl rfl) (cm rfl ?_)
 iterate 5 refine cnd rfl rfl ?_
 refine co rfl (kpt rfl rfl rfl rfl) (cm rfl ?_)
 iterate 7 refine cnd rfl rfl ?_
 refine co rfl (kpt rfl rfl rfl rfl) (Ch.nil (Fin.go (wk3 2 3 89 rfl (Tr.cond rfl (fun _ => ?_) (fun h => nomatch h)))))
 refine Tr.seq (Tr.reg0 (cm rfl (Ch.nil (Fin.go (Tr.ret (Fin.then_ret (Fin.ret1 rfl (OutW.bse _ _) rfl ?_)))))))
 · refine bool_eq ?_; symm; rw [decide_eq_false_iff_not]; rintro rfl; simp_all
 refine cy h8 rfl (kfa rfl fo126_8 rfl rfl) (cy h8 rfl (kl1 rfl one4 rfl) (cy h8 rfl (kfa rfl fo126_8 rfl rfl) (cy h8 rfl (kl1 rfl one4 rfl) (cy h8 rfl (ok_neb rfl Tryz.underlying4 (vl rfl) (vl rfl)) (co rfl (kpf rfl rfl h8 rfl) (cm rfl ?_))))))
 refine Ch.cs 67 rfl ?_ ?_ <;> intro h9 q9
 iterate 5 refine cnf h9 rfl ?_
 refine co rfl (kpt rfl rfl h9 rfl) (cm rfl ?_)
 iterate 5 refine cnd rfl rfl ?_
 refine co rfl (kpt rfl rfl rfl rfl) (cm rfl ?_)
 iterate 7 refine cnd rfl rfl ?_
 refine co rfl (kpt rfl rfl rfl rfl) (Ch.nil (Fin.go (wk3 2 3 89 rfl (Tr.cond rfl (fun _ => ?_) (fun h => nomatch h)))))
 refine Tr.seq (Tr.reg0 (cm rfl (Ch.nil (Fin.go (Tr.ret (Fin.then_ret (Fin.ret1 rfl (OutW.bse _ _) rfl ?_)))))))
 · refine bool_eq ?_; symm; rw [decide_eq_false_iff_not]; rintro rfl; simp_all
 refine cy h9 rfl (kfa rfl fo126_9 rfl rfl) (cy h9 rfl (kl1 rfl one3 rfl) (cy h9 rfl (kfa rfl fo126_9 rfl rfl) (cy h9 rfl (kl1 rfl one3 rfl) (cy h9 rfl (ki rfl rfl rfl rfl) (co rfl (kpf rfl rfl h9 rfl) (cm rfl ?_))))))
 refine Ch.cs 74 rfl ?_ ?_ <;> intro h10 q10
 iterate 5 refine cnf h10 rfl ?_
 refine co rfl (kpt rfl rfl h10 rfl) (cm rfl ?_)
 iterate 7 refine cnd rfl rfl ?_
 refine co rfl (kpt rfl rfl rfl rfl) (Ch.nil (Fin.go (wk3 2 3 89 rfl (Tr.cond rfl (fun _ => ?_) (fun h => nomatch h)))))
 refine Tr.seq (Tr.reg0 (cm rfl (Ch.nil (Fin.go (Tr.ret (Fin.then_ret (Fin.ret1 rfl (OutW.bse _ _) rfl ?_)))))))
 · refine bool_eq ?_; symm; rw [decide_eq_false_iff_not]; rintro rfl; simp_all
 refine cy h10 rfl (kfa rfl fo126_11 rfl rfl) (cy h10 rfl (ok_loadA rfl agg124 sz124 (vl rfl) rfl rfl) (cy h10 rfl (kfa rfl fo126_11 rfl rfl) (cy h10 rfl (ok_loadA rfl agg124 sz124 (vl rfl) rfl rfl) (cy h10 rfl (ok_ne124 rfl (vl rfl) (vl rfl)) (co rfl (kpf rfl rfl h10 rfl) (cm rfl ?_))))))
 refine Ch.cs 81 rfl ?_ ?_ <;> intro h11 q11
 iterate 7 refine cnf h11 rfl ?_
 refine co rfl (kpt rfl rfl h11 rfl) (Ch.nil (Fin.go (wk3 2 3 89 rfl (Tr.cond rfl (fun _ => ?_) (fun h => nomatch h)))))
 refine Tr.seq (Tr.reg0 (cm rfl (Ch.nil (Fin.go (Tr.ret (Fin.then_ret (Fin.ret1 rfl (OutW.bse _ _) rfl ?_)))))))
 · refine bool_eq ?_; symm; rw [decide_eq_false_iff_not]; rintro rfl; simp_all
 refine cy h11 rfl (kfa rfl fo126_10 rfl rfl) (cy h11 rfl (kl1 rfl one83 rfl) (cy h11 rfl (ok_lenm rfl Tryz.underlying83 (vl rfl)) (cy h11 rfl (kfa rfl fo126_10 rfl rfl) (cy h11 rfl (kl1 rfl one83 rfl) (cy h11 rfl (ok_lenm rfl Tryz.underlying83 (vl rfl)) (cy h11 rfl (ki rfl rfl rfl rfl) (co rfl (kpf rfl rfl h11 rfl) (Ch.nil (Fin.go (wk3 2 3 89 rfl ?_))))))))))
 refine Tr.cn rfl ?_ ?_ <;> intro h12 q12
 refine Tr.seq (Tr.reg0 (cm rfl (Ch.nil (Fin.go (Tr.ret (Fin.then_ret (Fin.ret1 rfl (OutW.bse _ _) rfl ?_)))))))
 · refine bool_eq ?_; symm; rw [decide_eq_false_iff_not]; rintro rfl; simp_all
 have hll : a.names.length = b.names.length := by simp_all; omega
 refine Tr.skip (Fin.go (Tr.seq (Tr.seq (Tr.reg0 (co rfl (kfa rfl fo126_10 rfl rfl) (co rfl (kl1 rfl one83 rfl) (co rfl (ok_lenm rfl Tryz.underlying83 (vl rfl)) (cm rfl (Ch.nil (Fin.go (Tr.block (Tr.loopw [(2, _), (3, _), (92, _)] (kk3 rfl) (fun k : Nat => [(93, int ((k : Nat) : Int))]) (fun k : Nat => k ≤ (a.names).length ∧ (a.names.take k = b.names.take k)) (fun k : Nat => (a.names).length - k) 0 (⟨Nat.zero_le _, rfl⟩) ⟨ke rfl, trivial⟩ ?_))))))))))))
 rintro k ⟨hle_k, hinv_k⟩
 refine Tr.seq (Tr.reg0 (co rfl (ki rfl rfl rfl rfl) (Ch.nil (Fin.go (Tr.seq ?_)))))
 refine Tr.cn rfl ?_ ?_ <;> intro h13 q13
 have hk_k : k < (a.names).length := lt_of_dec h13
 obtain ⟨x, hx_k⟩ := at_ hk_k
 obtain ⟨y, hy⟩ := at_ (l := b.names) (k := k) (by omega)
 refine Tr.skip (Fin.go (Tr.seq (Tr.block (Tr.seq (Tr.reg0 (cm rfl (cm rfl (Ch.nil (Fin.go (Tr.seq (Tr.reg1 mixed (by kernel_rfl) (co rfl (kfa rfl fo126_10 rfl rfl) (co rfl (kl1 rfl one83 rfl) ?_)))))))))))))
 refine cm rfl (co rfl (ok_indexAddr rfl Tryz.underlying83 sz9 (vl rfl) (vl rfl) (by omega) (row_at hx_k)) (co rfl (kl1 rfl one9 rfl) (co rfl (kfa rfl fo126_10 rfl rfl) (co rfl (kl1 rfl one83 rfl) (cm rfl (co rfl (ok_indexAddr rfl Tryz.underlying83 sz9 (vl rfl) (vl rfl) (by omega) (row_at hy)) (co rfl (kl1 rfl one9 rfl) (co rfl (ok_nes rfl (vl rfl) (vl rfl)) (Ch.nil (Fin.go (wk5 2 3 92 93 106 rfl ?_)))))))))))
 refine Tr.cn rfl ?_ ?_ <;> intro h14 q14
 refine Tr.seq (Tr.reg0 (cm rfl (Ch.nil (Fin.go (Tr.ret (Fin.block_ret (Fin.then_ret (Fin.then_ret (Fin.block_ret (Fin.then_ret (Fin.ret1 rfl (OutW.bse _ _) rfl ?_)))))))))))
 · refine bool_eq ?_; symm; rw [decide_eq_false_iff_not]; rintro rfl; rw [hx_k] at hy; cases hy; simp_all
 refine Tr.skip (Fin.block (Fin.go (Tr.reg0 (cad rfl rfl rfl rfl (by omega) (cm rfl (Ch.nil (Fin.fam_same (k + 1) ⟨⟨hk_k, sameY hx_k hy hinv_k (by simp_all)⟩, by omega⟩ ⟨⟨_, rfl, int_succ k⟩, ke rfl, ke rfl, ke rfl, trivial⟩)))))))
 have he_k : k = (a.names).length := by have := ge_of_dec h13; omega
 subst he_k
 refine Tr.exit (Fin.then_exit (Fin.then_exit (Fin.block_here (Fin.go (Tr.seq (Tr.reg0 (cm rfl (Ch.nil (Fin.go (Tr.ret (Fin.ret1 rfl (OutW.bse _ _) rfl ?_)))))))))))
 · refine bool_eq ?_; have hnn := sameA hll hinv_k; clear hinv_k hll; cases a; cases b; simp_all
set_option maxRecDepth 20000 in
theorem w_R24SameI {a b : Idn} (hs : a.small) : Fun Tryz.prog 70 [agg (rowId a), agg (rowId b)] (bool (decide (a = b))) := by
 refine Fun.of Tryz.func70 rfl rfl (by exact Nat.le_of_ble_eq_true rfl) fun M0 w0 => ?_
 have hsc := hs.chain
 refine Tr.seq (Tr.reg0 (co rfl (ok_box rfl (VL.le (vl rfl) (agg_cellsP _))) (co rfl (ok_box rfl (VL.le (vl rfl) (agg_cellsP _))) (cm rfl (Ch.nil (Fin.go (Tr.seq (Tr.seq (Tr.reg0 (co rfl (kfa rfl fo47_0 rfl rfl) (co rfl (ok_loadA rfl agg44 sz44 (vl rfl) rfl rfl) (co rfl (kfa rfl fo47_0 rfl rfl) (co rfl (ok_loadA rfl agg44 sz44 (vl rfl) rfl rfl) ?_)))))))))))))
 refine co rfl (ok_ne44 rfl (vl rfl) (vl rfl)) (cm rfl ?_)
 refine Ch.cs 11 rfl ?_ ?_ <;> intro h1 q1
 iterate 5 refine cnf h1 rfl ?_
 refine co rfl (kpt rfl rfl h1 rfl) (cm rfl ?_)
 iterate 7 refine cnd rfl rfl ?_
 refine co rfl (kpt rfl rfl rfl rfl) (Ch.nil (Fin.go (wk3 2 3 26 rfl (Tr.cond rfl (fun _ => ?_) (fun h => nomatch h)))))
 refine Tr.seq (Tr.reg0 (cm rfl (Ch.nil (Fin.go (Tr.ret (Fin.then_ret (Fin.ret1 rfl (OutW.bse _ _) rfl ?_)))))))
 · refine bool_eq ?_; symm; rw [decide_eq_false_iff_not]; rintro rfl; simp_all
 refine cy h1 rfl (kfa rfl fo47_1 rfl rfl) (cy h1 rfl (kl1 rfl one3 rfl) (cy h1 rfl (kfa rfl fo47_1 rfl rfl) (cy h1 rfl (kl1 rfl one3 rfl) (cy h1 rfl (ki rfl rfl rfl rfl) (co rfl (kpf rfl rfl h1 rfl) (cm rfl ?_))))))
 refine Ch.cs 18 rfl ?_ ?_ <;> intro h2 q2
 iterate 7 refine cnf h2 rfl ?_
 refine co rfl (kpt rfl rfl h2 rfl) (Ch.nil (Fin.go (wk3 2 3 26 rfl (Tr.cond rfl (fun _ => ?_) (fun h => nomatch h)))))
 refine Tr.seq (Tr.reg0 (cm rfl (Ch.nil (Fin.go (Tr.ret (Fin.then_ret (Fin.ret1 rfl (OutW.bse _ _) rfl ?_)))))))
 · refine bool_eq ?_; symm; rw [decide_eq_false_iff_not]; rintro rfl; simp_all
 refine cy h2 rfl (kfa rfl fo47_2 rfl rfl) (cy h2 rfl (kl1 rfl one45 rfl) (cy h2 rfl (ok_lenm rfl Tryz.underlying45 (vl rfl)) (cy h2 rfl (kfa rfl fo47_2 rfl rfl) (cy h2 rfl (kl1 rfl one45 rfl) (cy h2 rfl (ok_lenm rfl Tryz.underlying45 (vl rfl)) (cy h2 rfl (ki rfl rfl rfl rfl) (co rfl (kpf rfl rfl h2 rfl) (Ch.nil (Fin.go (wk3 2 3 26 rfl ?_))))))))))
 refine Tr.cn rfl ?_ ?_ <;> intro h3 q3
 refine Tr.seq (Tr.reg0 (cm rfl (Ch.nil (Fin.go (Tr.ret (Fin.then_ret (Fin.ret1 rfl (OutW.bse _ _) rfl ?_)))))))
 · refine bool_eq ?_; symm; rw [decide_eq_false_iff_not]; rintro rfl; simp_all
 have hll : a.chain.length = b.chain.length := by simp_all; omega
 refine Tr.skip (Fin.go (Tr.seq (Tr.seq (Tr.reg0 (co rfl (kfa rfl fo47_2 rfl rfl) (co rfl (kl1 rfl one45 rfl) (co rfl (ok_lenm rfl Tryz.underlying45 (vl rfl)) (cm rfl (Ch.nil (Fin.go (Tr.block (Tr.loopw [(2, _), (3, _), (29, _)] (kk3 rfl) (fun k : Nat => [(30, int ((k : Nat) : Int))]) (fun k : Nat => k ≤ (a.chain).length ∧ (a.chain.take k = b.chain.take k)) (fun k : Nat => (a.chain).length - k) 0 (⟨Nat.zero_le _, rfl⟩) ⟨ke rfl, trivial⟩ ?_))))))))))))
 rintro k ⟨hle_k, hinv_k⟩
 refine Tr.seq (Tr.reg0 (co rfl (ki rfl rfl rfl rfl) (Ch.nil (Fin.go (Tr.seq ?_)))))
 refine Tr.cn rfl ?_ ?_ <;> intro h4 q4
 have hk_k : k < (a.chain).length := lt_of_dec h4
 obtain ⟨x, hx_k⟩ := at_ hk_k
 obtain ⟨y, hy⟩ := at_ (l := b.chain) (k := k) (by omega)
 have hxn := hs.names x (List.mem_of_getElem? hx_k)
 refine Tr.skip (Fin.go (Tr.seq (Tr.block (Tr.seq (Tr.reg0 (cm rfl (cm rfl (Ch.nil (Fin.go (Tr.seq (Tr.reg1 mixed (by kernel_rfl) (co rfl (kfa rfl fo47_2 rfl rfl) (co rfl (kl1 rfl one45 rfl) ?_)))))))))))))
 refine cm rfl (co rfl (ok_indexAddr rfl Tryz.underlying45 sz126 (vl rfl) (vl rfl) (by omega) (row_at hx_k)) (co rfl (ok_loadA rfl agg126 sz126 (vl rfl) rfl rfl) (co rfl (kfa rfl fo47_2 rfl rfl) (co rfl (kl1 rfl one45 rfl) (cm rfl (co rfl (ok_indexAddr rfl Tryz.underlying45 sz126 (vl rfl) (vl rfl) (by omega) (row_at hy)) (co rfl (ok_loadA rfl agg126 sz126 (vl rfl) rfl rfl) (co rfl (ok_call rfl (w_R24SameC hxn) ⟨ke rfl, ke rfl, trivial⟩) (co rfl (ok_not rfl (vl rfl)) (Ch.nil (Fin.go (wk5 2 3 29 30 44 rfl ?_))))))))))))
 refine Tr.cn rfl ?_ ?_ <;> intro h5 q5
 refine Tr.seq (Tr.reg0 (cm rfl (Ch.nil (Fin.go (Tr.ret (Fin.block_ret (Fin.then_ret (Fin.then_ret (Fin.block_ret (Fin.then_ret (Fin.ret1 rfl (OutW.bse _ _) rfl ?_)))))))))))
 · refine bool_eq ?_; symm; rw [decide_eq_false_iff_not]; rintro rfl; rw [hx_k] at hy; cases hy; simp_all
 refine Tr.skip (Fin.block (Fin.go (Tr.reg0 (cad rfl rfl rfl rfl (by omega) (cm rfl (Ch.nil (Fin.fam_same (k + 1) ⟨⟨hk_k, sameY hx_k hy hinv_k (by simp_all)⟩, by omega⟩ ⟨⟨_, rfl, int_succ k⟩, ke rfl, ke rfl, ke rfl, trivial⟩)))))))
 have he_k : k = (a.chain).length := by have := ge_of_dec h4; omega
 subst he_k
 refine Tr.exit (Fin.then_exit (Fin.then_exit (Fin.block_here (Fin.go (Tr.seq (Tr.reg0 (cm rfl (Ch.nil (Fin.go (Tr.ret (Fin.ret1 rfl (OutW.bse _ _) rfl ?_)))))))))))
 · refine bool_eq ?_; have hnn := sameA hll hinv_k; clear hinv_k hll hs; cases a; cases b; simp_all
set_option maxRecDepth 20000 in
theorem w_R24Same {a b : Chg} (hs : a.idn.small) : Fun Tryz.prog 26 [agg (rowChg a), agg (rowChg b)] (bool (decide (a = b))) := by
 refine Fun.of Tryz.func26 rfl rfl (by exact Nat.le_of_ble_eq_true rfl) fun M0 w0 => ?_
 refine Tr.seq (Tr.reg0 (co rfl (ok_box rfl (VL.le (vl rfl) (agg_cellsP _))) (co rfl (ok_box rfl (VL.le (vl rfl) (agg_cellsP _))) (cm rfl (Ch.nil (Fin.go (Tr.seq (Tr.reg0 (co rfl (kfa rfl fo49_0 rfl rfl) (co rfl (kl1 rfl one3 rfl) (co rfl (kfa rfl fo49_0 rfl rfl) (co rfl (kl1 rfl one3 rfl) (co rfl (ki rfl rfl rfl rfl) ?_)))))))))))))
 refine cm rfl ?_
 refine Ch.cs 10 rfl ?_ ?_ <;> intro h1 q1
 refine cy h1 rfl (kfa rfl fo49_1 rfl rfl) (cy h1 rfl (kl1 rfl one3 rfl) (cy h1 rfl (kfa rfl fo49_1 rfl rfl) (cy h1 rfl (kl1 rfl one3 rfl) (cy h1 rfl (ki rfl rfl rfl rfl) (co rfl (kpt rfl rfl h1 rfl) (cm rfl ?_))))))
 refine Ch.cs 17 rfl ?_ ?_ <;> intro h2 q2
 refine cy h2 rfl (kfa rfl fo49_2 rfl rfl) (cy h2 rfl (kl1 rfl one3 rfl) (cy h2 rfl (kfa rfl fo49_2 rfl rfl) (cy h2 rfl (kl1 rfl one3 rfl) (cy h2 rfl (ki rfl rfl rfl rfl) (co rfl (kpt rfl rfl h2 rfl) (cm rfl ?_))))))
 refine Ch.cs 24 rfl ?_ ?_ <;> intro h3 q3
 refine cy h3 rfl (kfa rfl fo49_3 rfl rfl) (cy h3 rfl (kl1 rfl one3 rfl) (cy h3 rfl (kfa rfl fo49_3 rfl rfl) (cy h3 rfl (kl1 rfl one3 rfl) (cy h3 rfl (ki rfl rfl rfl rfl) (co rfl (kpt rfl rfl h3 rfl) (cm rfl ?_))))))
 refine Ch.cs 31 rfl ?_ ?_ <;> intro h4 q4
 refine cy h4 rfl (kfa rfl fo49_4 rfl rfl) (cy h4 rfl (ok_loadA rfl agg47 sz47 (vl rfl) rfl rfl) (cy h4 rfl (kfa rfl fo49_4 rfl rfl) (cy h4 rfl (ok_loadA rfl agg47 sz47 (vl rfl) rfl rfl) (cy h4 rfl (ok_call rfl (w_R24SameI hs) ⟨ke rfl, ke rfl, trivial⟩) (co rfl (kpt rfl rfl h4 rfl) (cm rfl (Ch.nil (Fin.go (wk1 4 rfl (Tr.ret (Fin.ret1 rfl (OutW.bse _ _) rfl ?_)))))))))))
 · clear hs; refine bool_eq ?_; cases a; cases b; simp_all [Bool.beq_eq_decide_eq]
 iterate 5 refine cnt h4 rfl ?_
 refine co rfl (kpf rfl rfl h4 rfl) (cm rfl (Ch.nil (Fin.go (wk1 4 rfl (Tr.ret (Fin.ret1 rfl (OutW.bse _ _) rfl ?_))))))
 · clear hs; refine bool_eq ?_; cases a; cases b; simp_all [Bool.beq_eq_decide_eq]
 iterate 5 refine cnt h3 rfl ?_
 refine co rfl (kpf rfl rfl h3 rfl) (cm rfl ?_)
 iterate 5 refine cnd rfl rfl ?_
 refine co rfl (kpf rfl rfl rfl rfl) (cm rfl (Ch.nil (Fin.go (wk1 4 rfl (Tr.ret (Fin.ret1 rfl (OutW.bse _ _) rfl ?_))))))
 · clear hs; refine bool_eq ?_; cases a; cases b; simp_all [Bool.beq_eq_decide_eq]
 iterate 5 refine cnt h2 rfl ?_
 refine co rfl (kpf rfl rfl h2 rfl) (cm rfl ?_)
 iterate 5 refine cnd rfl rfl ?_
 refine co rfl (kpf rfl rfl rfl rfl) (cm rfl ?_)
 iterate 5 refine cnd rfl rfl ?_
 refine co rfl (kpf rfl rfl rfl rfl) (cm rfl (Ch.nil (Fin.go (wk1 4 rfl (Tr.ret (Fin.ret1 rfl (OutW.bse _ _) rfl ?_))))))
 · clear hs; refine bool_eq ?_; cases a; cases b; simp_all [Bool.beq_eq_decide_eq]
 iterate 5 refine cnt h1 rfl ?_
 refine co rfl (kpf rfl rfl h1 rfl) (cm rfl ?_)
 iterate 5 refine cnd rfl rfl ?_
 refine co rfl (kpf rfl rfl rfl rfl) (cm rfl ?_)
 iterate 5 refine cnd rfl rfl ?_
 refine co rfl (kpf rfl rfl rfl rfl) (cm rfl ?_)
 iterate 5 refine cnd rfl rfl ?_
 refine co rfl (kpf rfl rfl rfl rfl) (cm rfl (Ch.nil (Fin.go (wk1 4 rfl (Tr.ret (Fin.ret1 rfl (OutW.bse _ _) rfl ?_))))))
 · clear hs; refine bool_eq ?_; cases a; cases b; simp_all [Bool.beq_eq_decide_eq]
def widensB (e : Ept) (c : Chg) : Bool :=
  if (doneR e c).2.2 ≠ 0 then false
  else if c.kind = 1 ∨ c.kind = 5 ∨ c.kind = 7 ∨ c.kind = 9 then true
  else if c.kind = 3 then decide (e.most < c.number)
  else if c.kind = 4 then decide (c.number < e.least)
  else if c.kind = 11 then (c.number == 1)
  else false

set_option maxRecDepth 20000 in
theorem w_Widens24 {e : Ept} {c : Chg} (hf : e.fits) (hsm : e.small) (hcf : c.idn.fits) (hcs : c.idn.small) : Fun Tryz.prog 27 [agg (rowEp e), agg (rowChg c)] (bool (widensB e c)) := by
 refine Fun.of Tryz.func27 rfl rfl (by exact Nat.le_of_ble_eq_true rfl) fun M0 w0 => ?_
 refine Tr.seq (Tr.reg0 (co rfl (ok_box rfl (VL.le (vl rfl) (agg_cellsP _))) (co rfl (ok_box rfl (VL.le (vl rfl) (agg_cellsP _))) (cm rfl (Ch.nil (Fin.go (Tr.seq (Tr.seq (Tr.reg0 (co rfl (ok_loadA rfl agg35 sz35 (vl rfl) rfl rfl) (co rfl (ok_loadA rfl agg49 sz49 (vl rfl) rfl rfl) (co rfl (ok_call rfl (w_Check24 hf hsm hcf hcs) ⟨ke rfl, ke rfl, trivial⟩) (co rfl (ki rfl rfl rfl rfl) ?_)))))))))))))
 refine Ch.nil (Fin.go ?_)
 refine Tr.cn rfl ?_ ?_ <;> intro h1 q1
 refine Tr.seq (Tr.reg0 (cm rfl (Ch.nil (Fin.go (Tr.ret (Fin.then_ret (Fin.ret1 rfl (OutW.bse _ _) rfl ?_)))))))
 · refine bool_eq ?_; unfold widensB; simp_all
 refine Tr.skip (Fin.go (Tr.seq (Tr.seq (Tr.reg0 (co rfl (kfa rfl fo49_1 rfl rfl) (co rfl (kl1 rfl one3 rfl) (Ch.nil (Fin.go (Tr.block (Tr.seq (Tr.seq (Tr.reg0 (co rfl (ki rfl rfl rfl rfl) ?_)))))))))))))
 refine cm rfl (Ch.nil (Fin.go ?_))
 refine Tr.cn rfl ?_ ?_ <;> intro h2 q2
 refine Tr.skip (Fin.go (Tr.cond rfl (fun _ => ?_) (fun h => nomatch h2.symm.trans h)))
 refine Tr.seq (Tr.reg0 (cm rfl (Ch.nil (Fin.go (Tr.ret (Fin.block_ret (Fin.then_ret (Fin.ret1 rfl (OutW.bse _ _) rfl ?_))))))))
 · refine bool_eq ?_; unfold widensB; simp_all
 refine Tr.seq (Tr.reg0 (co rfl (ki rfl rfl rfl rfl) (cm rfl (Ch.nil (Fin.go ?_)))))
 refine Tr.cn rfl ?_ ?_ <;> intro h3 q3
 refine Tr.skip (Fin.go (Tr.cond rfl (fun _ => ?_) (fun h => nomatch h3.symm.trans h)))
 refine Tr.seq (Tr.reg0 (cm rfl (Ch.nil (Fin.go (wk1 4 rfl (Tr.ret (Fin.block_ret (Fin.then_ret (Fin.ret1 rfl (OutW.bse _ _) rfl ?_)))))))))
 · refine bool_eq ?_; unfold widensB; simp_all
 refine Tr.seq (Tr.reg0 (co rfl (ki rfl rfl rfl rfl) (cm rfl (Ch.nil (Fin.go (wk4 2 3 10 11 rfl ?_))))))
 refine Tr.cn rfl ?_ ?_ <;> intro h4 q4
 refine Tr.skip (Fin.go (Tr.cond rfl (fun _ => ?_) (fun h => nomatch h4.symm.trans h)))
 refine Tr.seq (Tr.reg0 (cm rfl (Ch.nil (Fin.go (Tr.ret (Fin.block_ret (Fin.then_ret (Fin.ret1 rfl (OutW.bse _ _) rfl ?_))))))))
 · refine bool_eq ?_; unfold widensB; simp_all
 refine Tr.reg0 (co rfl (ki rfl rfl rfl rfl) (cm rfl (Ch.nil (Fin.go ?_))))
 refine Tr.cn rfl ?_ ?_ <;> intro h5 q5
 refine Tr.seq (Tr.reg0 (cm rfl (Ch.nil (Fin.go (Tr.ret (Fin.block_ret (Fin.then_ret (Fin.ret1 rfl (OutW.bse _ _) rfl ?_))))))))
 · refine bool_eq ?_; unfold widensB; simp_all
 refine Tr.seq (Tr.reg0 (co rfl (ki rfl rfl rfl rfl) (cm rfl (Ch.nil (Fin.go ?_)))))
 refine Tr.cn rfl ?_ ?_ <;> intro h6 q6
 refine Tr.seq (Tr.reg0 (co rfl (kfa rfl fo49_2 rfl rfl) (co rfl (kl1 rfl one3 rfl) (co rfl (kfa rfl fo35_2 rfl rfl) (co rfl (kl1 rfl one3 rfl) (co rfl (ki rfl rfl rfl rfl) (cm rfl (Ch.nil (Fin.go (wk1 4 rfl (Tr.ret (Fin.block_ret (Fin.then_ret (Fin.ret1 rfl (OutW.bse _ _) rfl ?_))))))))))))))
 · refine bool_eq ?_; unfold widensB; simp_all
 refine Tr.seq (Tr.reg0 (co rfl (ki rfl rfl rfl rfl) (cm rfl (Ch.nil (Fin.go ?_)))))
 refine Tr.cn rfl ?_ ?_ <;> intro h7 q7
 refine Tr.seq (Tr.reg0 (co rfl (kfa rfl fo49_2 rfl rfl) (co rfl (kl1 rfl one3 rfl) (co rfl (kfa rfl fo35_1 rfl rfl) (co rfl (kl1 rfl one3 rfl) (co rfl (ki rfl rfl rfl rfl) (cm rfl (Ch.nil (Fin.go (wk1 4 rfl (Tr.ret (Fin.block_ret (Fin.then_ret (Fin.ret1 rfl (OutW.bse _ _) rfl ?_))))))))))))))
 · refine bool_eq ?_; unfold widensB; simp_all
 refine Tr.seq (Tr.reg0 (co rfl (ki rfl rfl rfl rfl) (cm rfl (Ch.nil (Fin.go ?_)))))
 refine Tr.cn rfl ?_ ?_ <;> intro h8 q8
 refine Tr.seq (Tr.reg0 (co rfl (kfa rfl fo49_2 rfl rfl) (co rfl (kl1 rfl one3 rfl) (co rfl (ki rfl rfl rfl rfl) (cm rfl (Ch.nil (Fin.go (wk1 4 rfl (Tr.ret (Fin.block_ret (Fin.then_ret (Fin.ret1 rfl (OutW.bse _ _) rfl ?_))))))))))))
 · refine bool_eq ?_; unfold widensB; simp_all
 refine Tr.skip (Fin.block (Fin.go (Tr.seq (Tr.reg0 (cm rfl (Ch.nil (Fin.go (Tr.ret (Fin.ret1 rfl (OutW.bse _ _) rfl ?_)))))))))
 · refine bool_eq ?_; unfold widensB; simp_all
end Go.Proofs.YtflodcidhlmaaaaGreat
namespace Go.Proofs.YtflodcidhlmaaaaGreat
open Go Go.RowKit Cp

theorem kinds12 {k : Int} (hk : 1 ≤ k ∧ k ≤ 12) : k = 1 ∨ k = 2 ∨ k = 3 ∨ k = 4 ∨ k = 5 ∨ k = 6 ∨ k = 7 ∨ k = 8 ∨ k = 9 ∨ k = 10 ∨ k = 11 ∨ k = 12 := by omega
theorem stepR_ne {e : Ept} {c : Chg} {f : Int} (hc : okCh c) (h : stepR e c = .error f) : f ≠ 0 := by
  rcases kinds12 hc.1 with hk | hk | hk | hk | hk | hk | hk | hk | hk | hk | hk | hk
  · rw [stepR_1 hk] at h; (repeat' (split at h)) <;> first | (injection h with h; omega) | (cases h; done)
  · rw [stepR_2 hk] at h; (repeat' (split at h)) <;> first | (injection h with h; omega) | (cases h; done)
  · rw [stepR_3 hk] at h; (repeat' (split at h)) <;> first | (injection h with h; omega) | (cases h; done)
  · rw [stepR_4 hk] at h; (repeat' (split at h)) <;> first | (injection h with h; omega) | (cases h; done)
  · rw [stepR_5 hk] at h; (repeat' (split at h)) <;> first | (injection h with h; omega) | (cases h; done)
  · rw [stepR_6 hk] at h; (repeat' (split at h)) <;> first | (injection h with h; omega) | (cases h; done)
  · rw [stepR_7 hk] at h; (repeat' (split at h)) <;> first | (injection h with h; omega) | (cases h; done)
  · rw [stepR_8 hk] at h; (repeat' (split at h)) <;> first | (injection h with h; omega) | (cases h; done)
  · rw [stepR_9 hk] at h; (repeat' (split at h)) <;> first | (injection h with h; omega) | (cases h; done)
  · rw [stepR_10 hk] at h; (repeat' (split at h)) <;> first | (injection h with h; omega) | (cases h; done)
  · rw [stepR_11 hk] at h; (repeat' (split at h)) <;> first | (injection h with h; omega) | (cases h; done)
  · rw [stepR_12 hk] at h; (repeat' (split at h)) <;> first | (injection h with h; omega) | (cases h; done)
theorem doneR_inv {e : Ept} {c : Chg} {x : Ept} {b : Chg} (h : doneR e c = (x, b, 0)) : EptOk e ∧ okCh c ∧ stepR e c = .ok (x, b) ∧ EptOk x := by
  unfold doneR at h
  split at h
  · cases h
  next h1 =>
  split at h
  · cases h
  next h2 =>
  have h1 : eptB e = true := by cases hh : eptB e with
    | true => rfl
    | false => exact absurd hh h1
  have h2 : okCh c := Classical.not_not.1 h2
  cases hs : stepR e c with
  | error f =>
    rw [hs] at h
    simp only [Prod.mk.injEq] at h
    exact absurd h.2.2 (stepR_ne h2 hs)
  | ok r =>
    obtain ⟨x', b'⟩ := r
    rw [hs] at h
    simp only at h
    split at h
    next h3 => simp only [Prod.mk.injEq, and_true] at h; obtain ⟨rfl, rfl⟩ := h; exact ⟨eptB_iff.1 h1, h2, rfl, eptB_iff.1 h3⟩
    · cases h
theorem noneB_iff {x : Idn} (h : noneB x = true) : x = zeroId := by
  unfold noneB at h
  obtain ⟨a, b, k, l⟩ := x
  simp only [Bool.and_eq_true, decide_eq_true_eq, beq_iff_eq] at h
  obtain ⟨⟨⟨h1, h2⟩, h3⟩, h4⟩ := h
  have : l = [] := List.length_eq_zero_iff.1 (by omega)
  subst h1; subst h2; subst h3; subst this; rfl
section
variable {α : Type} {p : α → Bool} {l : List α} {a : α} {i : Nat}
theorem idx_none' (h : l.any p = false) : idx p l < 0 := by
  unfold idx
  cases hf : l.findIdx? p with
  | none => show (-1 : Int) < 0; omega
  | some j =>
    rw [List.findIdx?_eq_some_iff_getElem] at hf
    obtain ⟨h1, h2, _⟩ := hf
    rw [List.any_eq_false] at h
    exact absurd h2 (h _ (List.getElem_mem h1))
theorem idx_lt0 (h : idx p l < 0) : l.any p = false := by
  rw [List.any_eq_false]
  intro x hx hp
  unfold idx at h
  cases hf : l.findIdx? p with
  | none => rw [List.findIdx?_eq_none_iff] at hf; rw [hf x hx] at hp; cases hp
  | some j => rw [hf] at h; simp at h; omega
theorem idx_at (hi : l[i]? = some a) (hp : p a = true) (hno : ∀ (j : Nat) y, j < i → l[j]? = some y → p y = false) : idx p l = ((i : Nat) : Int) := by
  unfold idx
  have hlt := lt_of_at hi
  rw [List.getElem?_eq_getElem hlt] at hi; cases hi
  have : l.findIdx? p = some i := by
    rw [List.findIdx?_eq_some_iff_getElem]
    exact ⟨hlt, hp, fun j hj => by rw [hno j _ hj (List.getElem?_eq_getElem (by omega))]; decide⟩
  rw [this]
theorem ins_at (hi : i ≤ l.length) : (l.take i ++ [a] ++ l.drop i)[i]? = some a := by
  rw [List.append_assoc, List.getElem?_append_right (by rw [List.length_take]; omega), List.length_take, show i - min i l.length = 0 by omega]; rfl
theorem ins_lt (hi : i ≤ l.length) {j : Nat} (hj : j < i) : (l.take i ++ [a] ++ l.drop i)[j]? = l[j]? := by
  rw [List.append_assoc, List.getElem?_append_left (by rw [List.length_take]; omega), List.getElem?_take, if_pos hj]
theorem ins_drop (hi : i ≤ l.length) : (l.take i ++ [a] ++ l.drop i).drop (i + 1) = l.drop i := by
  rw [List.drop_append_of_le_length (by simp [List.length_take]; omega), List.drop_eq_nil_of_le (by simp [List.length_take]; omega)]; rfl
theorem ins_len (hi : i ≤ l.length) : (l.take i ++ [a] ++ l.drop i).length = l.length + 1 := by simp [List.length_take, List.length_drop]; omega
theorem idx_ins (hi : i ≤ l.length) (hp : p a = true) (h : l.any p = false) : idx p (l.take i ++ [a] ++ l.drop i) = ((i : Nat) : Int) := by
  refine idx_at (ins_at hi) hp (fun j y hj hy => ?_)
  rw [ins_lt hi hj] at hy
  rw [List.any_eq_false] at h
  simpa using h y (List.mem_of_getElem? hy)
theorem erase_ins (hi : i ≤ l.length) : (l.take i ++ [a] ++ l.drop i).eraseIdx i = l := by
  rw [List.eraseIdx_eq_take_drop_succ, ins_drop hi, List.append_assoc, List.take_append_of_le_length (by rw [List.length_take]; omega), List.take_take, Nat.min_self, List.take_append_drop]
theorem ins_erase (hi : l[i]? = some a) : (l.eraseIdx i).take i ++ [a] ++ (l.eraseIdx i).drop i = l := by
  have hlt := lt_of_at hi
  rw [List.eraseIdx_eq_take_drop_succ]
  rw [List.take_append_of_le_length (by rw [List.length_take]; omega), List.take_take, Nat.min_self]
  rw [List.drop_append_of_le_length (by rw [List.length_take]; omega), List.drop_eq_nil_of_le (by rw [List.length_take]; omega), List.nil_append]
  rw [List.getElem?_eq_getElem hlt] at hi; cases hi
  rw [List.append_assoc, List.singleton_append, List.getElem_cons_drop, List.take_append_drop]
theorem any_erase (h : ∀ (j : Nat) y, l[j]? = some y → p y = true → j = i) : (l.eraseIdx i).any p = false := by
  rw [List.any_eq_false]
  intro y hy hp
  obtain ⟨j, hj⟩ := List.getElem?_of_mem hy
  rw [List.getElem?_eraseIdx] at hj
  split at hj
  · have := h j y hj hp; omega
  · have := h (j + 1) y hj hp; omega
theorem idx_first {j : Nat} {y : α} (h0 : 0 ≤ idx p l) (hy : l[j]? = some y) (hp : p y = true) : (idx p l).toNat ≤ j := by
  unfold idx at h0 ⊢
  cases hf : l.findIdx? p with
  | none => rw [hf] at h0; simp at h0
  | some k =>
    rw [List.findIdx?_eq_some_iff_getElem] at hf
    obtain ⟨_, _, h3⟩ := hf
    show k ≤ j
    refine Nat.le_of_not_lt fun hlt => ?_
    have := h3 j hlt
    have hlt2 := lt_of_at hy
    rw [List.getElem?_eq_getElem hlt2] at hy; cases hy
    exact this hp
end
theorem suites_one {l : List Int} (h : suitesB l = true) {i j : Nat} {n : Int} (hi : l[i]? = some n) (hj : l[j]? = some n) : i = j := by
  unfold suitesB at h; rw [allI_iff] at h
  have key : ∀ {a b : Nat}, a < b → l[a]? = some n → l[b]? = some n → False := by
    intro a b hab ha hb
    have := h b (lt_of_at hb)
    unfold suiteAt at this
    rw [getD_at hb] at this
    simp only [Bool.and_eq_true, Bool.not_eq_true', List.any_eq_false] at this
    have := this.2 n (List.mem_of_getElem? (show (l.take b)[a]? = some n by rw [List.getElem?_take, if_pos hab]; exact ha))
    simp at this
  rcases Nat.lt_trichotomy i j with h1 | h1 | h1
  · exact (key h1 hi hj).elim
  · exact h1
  · exact (key h1 hj hi).elim
theorem posI_ins {l : List Int} {n : Int} (h : AscI l) : posI (insX l n) n = posI l n ∧ hasX (insX l n) n = true := by
  have h0 := posI_le l n
  have h1 : posI (insX l n) n = posI l n := by
    refine posI_eq (by rw [ins_len h0]; omega) (fun j y hj hy => ?_) (fun y hy => ?_)
    · rw [ins_lt h0 hj] at hy; exact posI_lt hj hy
    · rw [ins_at h0] at hy; cases hy; omega
  refine ⟨h1, ?_⟩
  unfold hasX; rw [h1, ins_at h0]; simp
theorem hasX_hit {l : List Int} {n : Int} (h : hasX l n = true) : l[posI l n]? = some n := by
  unfold hasX at h
  cases hh : l[posI l n]? with
  | none => rw [hh] at h; cases h
  | some y => rw [hh] at h; simp at h; rw [h]
theorem posI_del {l : List Int} {n : Int} (hs : AscI l) (h : hasX l n = true) : posI (l.eraseIdx (posI l n)) n = posI l n ∧ hasX (l.eraseIdx (posI l n)) n = false := by
  have hh := hasX_hit h
  have hlt := lt_of_at hh
  have hnext : ∀ y, (l.eraseIdx (posI l n))[posI l n]? = some y → n < y := by
    intro y hy
    rw [List.getElem?_eraseIdx, if_neg (by omega)] at hy
    exact ascI_lt hs (Nat.lt_succ_self _) hh hy
  have h1 : posI (l.eraseIdx (posI l n)) n = posI l n := by
    refine posI_eq (by rw [List.length_eraseIdx, if_pos hlt]; omega) (fun j y hj hy => ?_) (fun y hy => by have := hnext y hy; omega)
    rw [List.getElem?_eraseIdx, if_pos hj] at hy; exact posI_lt hj hy
  refine ⟨h1, ?_⟩
  unfold hasX; rw [h1]
  cases hh2 : (l.eraseIdx (posI l n))[posI l n]? with
  | none => rfl
  | some y => have := hnext y hh2; simp; omega
abbrev stepB (e : Ept) (c : Chg) (x : Ept) (b : Chg) : Prop := stepR x b = .ok (e, c) ∧ okCh b ∧ b.endpoint = c.endpoint
theorem okS {ep k n : Int} (hk : 1 ≤ k ∧ k ≤ 12) (h5 : k ≠ 5) : okCh ⟨ep, k, n, 0, zeroId⟩ := by
  refine ⟨hk, ?_⟩
  unfold leanB; simp only
  split
  · rfl
  · first | rfl | (rw [if_neg h5]; rfl)
theorem lean_s {ep k n at_ : Int} {x : Idn} (h : okCh ⟨ep, k, n, at_, x⟩) (h1 : k ≠ 1) (h5 : k ≠ 5) : at_ = 0 ∧ x = zeroId := by
  have := h.2
  unfold leanB at this; simp only at this
  rw [if_neg h1, if_neg h5, Bool.and_eq_true] at this
  exact ⟨by simpa using this.1, noneB_iff this.2⟩
theorem bit_back {n : Int} {f : Bool} (hn : 0 ≤ n ∧ n ≤ 1) (h : ¬ bitI f = n) : (0 ≤ bitI f ∧ bitI f ≤ 1) ∧ ¬ bitI (n == 1) = bitI f ∧ (bitI f == 1) = f ∧ bitI (n == 1) = n := by
  have : n = 0 ∨ n = 1 := by omega
  rcases this with rfl | rfl <;> cases f <;> simp_all [bitI]
/-- What is done is undone by what leads back. -/
theorem step_back {e : Ept} {c : Chg} {x : Ept} {b : Chg} (he : EptOk e) (hc : okCh c) (h : stepR e c = .ok (x, b)) : stepB e c x b := by
  obtain ⟨ep, k, n, at_, idn⟩ := c
  have hk : 1 ≤ k ∧ k ≤ 12 := hc.1
  have h0 := kinds12 hk
  rcases h0 with rfl | rfl | rfl | rfl | rfl | rfl | rfl | rfl | rfl | rfl | rfl | rfl
  · -- addSuite
    have hz : idn = zeroId := noneB_iff hc.2
    subst hz
    rw [stepR_1 rfl] at h
    split at h
    · cases h
    next hr =>
    split at h
    · cases h
    next hn =>
    injection h with h; obtain ⟨rfl, rfl⟩ := Prod.mk.inj h
    have hr2 : 0 ≤ at_ ∧ at_ ≤ (e.suites.length : Nat) := Classical.not_not.1 hr
    obtain ⟨i, rfl⟩ := Int.eq_ofNat_of_zero_le hr2.1
    have hi : i ≤ e.suites.length := by omega
    refine ⟨?_, okS (by omega) (by omega), rfl⟩
    rw [stepR_2 rfl]
    have hx : idx (fun y => n == y) (e.suites.take i ++ [n] ++ e.suites.drop i) = ((i : Nat) : Int) := idx_ins hi (by simp) (Bool.eq_false_iff.2 hn)
    have hs : ∀ {E : Ept}, E.suites = e.suites.take i ++ [n] ++ e.suites.drop i → sIdx E ⟨ep, 2, n, 0, zeroId⟩ = ((i : Nat) : Int) := fun hE => by unfold sIdx; rw [hE]; exact hx
    rw [hs rfl, if_neg (by omega)]
    show Except.ok (({ e with suites := (e.suites.take i ++ [n] ++ e.suites.drop i).eraseIdx i } : Ept), (⟨ep, 1, n, i, zeroId⟩ : Chg)) = _
    rw [erase_ins hi]
  · -- dropSuite
    obtain ⟨rfl, rfl⟩ := lean_s hc (by omega) (by omega)
    rw [stepR_2 rfl] at h
    split at h
    · cases h
    next hn =>
    injection h with h; obtain ⟨rfl, rfl⟩ := Prod.mk.inj h
    have hn' : ¬ idx (fun y => n == y) e.suites < 0 := hn
    obtain ⟨y, hy, hp, hlt⟩ := idx_hit (p := fun y => n == y) (l := e.suites) (by omega)
    have : n = y := by simpa using hp
    subst this
    show stepB e ⟨ep, 2, n, 0, zeroId⟩ { e with suites := e.suites.eraseIdx (idx (fun y => n == y) e.suites).toNat } ⟨ep, 1, n, idx (fun y => n == y) e.suites, zeroId⟩
    have hk0 : idx (fun y => n == y) e.suites = ((idx (fun y => n == y) e.suites).toNat : Int) := by omega
    clear hn h hp
    revert hn' hy hlt hk0
    generalize idx (fun y => n == y) e.suites = K
    intro hn' hlt hy hk0
    generalize K.toNat = i at hy hlt hk0
    subst hk0
    have hone : ∀ (j : Nat) z, e.suites[j]? = some z → (n == z) = true → j = i := fun j z hj hz => by
      have : n = z := by simpa using hz
      subst this; exact suites_one he.suites hj hy
    refine ⟨?_, ⟨⟨by show (1 : Int) ≤ 1; omega, by show (1 : Int) ≤ 12; omega⟩, rfl⟩, rfl⟩
    have hany : ((e.suites.eraseIdx i).any fun y => n == y) = false := any_erase hone
    have hlen : (e.suites.eraseIdx i).length = e.suites.length - 1 := by rw [List.length_eraseIdx, if_pos hlt]
    rw [stepR_1 rfl, if_neg (by
      show ¬ ¬ (0 ≤ ((i : Nat) : Int) ∧ ((i : Nat) : Int) ≤ ((e.suites.eraseIdx i).length : Nat))
      omega), if_neg (by
      show ¬ ((e.suites.eraseIdx i).any fun y => n == y) = true
      rw [hany]; decide)]
    show Except.ok (({ e with suites := (e.suites.eraseIdx i).take i ++ [n] ++ (e.suites.eraseIdx i).drop i } : Ept), (⟨ep, 2, n, 0, zeroId⟩ : Chg)) = _
    rw [ins_erase hy]
  · obtain ⟨rfl, rfl⟩ := lean_s hc (by omega) (by omega)
    rw [stepR_3 rfl] at h
    split at h
    · cases h
    next hn =>
    injection h with h; obtain ⟨rfl, rfl⟩ := Prod.mk.inj h
    refine ⟨?_, okS (k := 3) (by omega) (by omega), rfl⟩
    rw [stepR_3 rfl, if_neg (fun h => hn h.symm)]
  · obtain ⟨rfl, rfl⟩ := lean_s hc (by omega) (by omega)
    rw [stepR_4 rfl] at h
    split at h
    · cases h
    next hn =>
    injection h with h; obtain ⟨rfl, rfl⟩ := Prod.mk.inj h
    refine ⟨?_, okS (k := 4) (by omega) (by omega), rfl⟩
    rw [stepR_4 rfl, if_neg (fun h => hn h.symm)]
  · -- addIdentity
    have hz : n = 0 := by have := hc.2; unfold leanB at this; simpa using this
    subst hz
    rw [stepR_5 rfl] at h
    split at h
    · cases h
    next hr =>
    split at h
    · cases h
    next hn =>
    injection h with h; obtain ⟨rfl, rfl⟩ := Prod.mk.inj h
    have hr2 : 0 ≤ at_ ∧ at_ ≤ (e.ids.length : Nat) := Classical.not_not.1 hr
    obtain ⟨i, rfl⟩ := Int.eq_ofNat_of_zero_le hr2.1
    have hi : i ≤ e.ids.length := by omega
    have hn' : ¬ 0 ≤ keyIdx idn.keyId e.ids := hn
    have hany : (e.ids.any fun x => x.keyId == idn.keyId) = false := idx_lt0 (show keyIdx idn.keyId e.ids < 0 by omega)
    refine ⟨?_, okS (by omega) (by omega), rfl⟩
    have hx : keyIdx idn.keyId (e.ids.take i ++ [idn] ++ e.ids.drop i) = ((i : Nat) : Int) := idx_ins hi (by simp) hany
    have hd : ((e.ids.drop i).any fun x => x.keyId == idn.keyId) = false := by
      rw [List.any_eq_false] at hany ⊢; exact fun y hy => hany y (List.mem_of_mem_drop hy)
    rw [stepR_6 rfl]
    show (match (e.ids.take i ++ [idn] ++ e.ids.drop i)[(keyIdx idn.keyId (e.ids.take i ++ [idn] ++ e.ids.drop i)).toNat]? with
      | none => (Except.error 41 : Except Int (Ept × Chg))
      | some x => if keyIdx idn.keyId (e.ids.take i ++ [idn] ++ e.ids.drop i) < 0 then .error 41
        else if (((e.ids.take i ++ [idn] ++ e.ids.drop i).drop (keyIdx idn.keyId (e.ids.take i ++ [idn] ++ e.ids.drop i) + 1).toNat).any fun x => x.keyId == idn.keyId) = true then .error 5
        else .ok (({ e with ids := (e.ids.take i ++ [idn] ++ e.ids.drop i).eraseIdx (keyIdx idn.keyId (e.ids.take i ++ [idn] ++ e.ids.drop i)).toNat } : Ept), ⟨ep, 5, 0, keyIdx idn.keyId (e.ids.take i ++ [idn] ++ e.ids.drop i), x⟩)) = _
    rw [hx, Int.toNat_natCast, ins_at hi]
    show (if ((i : Nat) : Int) < 0 then _ else _) = _
    rw [if_neg (by omega), show (((i : Nat) : Int) + 1).toNat = i + 1 by omega, ins_drop hi, hd, erase_ins hi]
    rfl
  · -- dropIdentity
    obtain ⟨rfl, rfl⟩ := lean_s hc (by omega) (by omega)
    rw [stepR_6 rfl] at h
    split at h
    · cases h
    next x0 hx0 =>
    split at h
    · cases h
    next hn =>
    split at h
    · cases h
    next ht =>
    injection h with h; obtain ⟨rfl, rfl⟩ := Prod.mk.inj h
    have hx0' : e.ids[(keyIdx n e.ids).toNat]? = some x0 := hx0
    have hn' : ¬ keyIdx n e.ids < 0 := hn
    have ht' : ¬ ((e.ids.drop (keyIdx n e.ids + 1).toNat).any fun x => x.keyId == n) = true := ht
    obtain ⟨y, hy, hp, hlt⟩ := idx_hit (p := fun x : Idn => x.keyId == n) (l := e.ids) (by unfold keyIdx at hn'; omega)
    have hyx : y = x0 := by have : e.ids[(keyIdx n e.ids).toNat]? = some y := hy
                            rw [hx0'] at this; cases this; rfl
    subst hyx
    have hky : y.keyId = n := by simpa using hp
    have hfirst : ∀ (j : Nat) z, e.ids[j]? = some z → (z.keyId == n) = true → (keyIdx n e.ids).toNat ≤ j := fun j z hj hz => idx_first (p := fun x : Idn => x.keyId == n) (by unfold keyIdx at hn'; omega) hj hz
    have hk0 : keyIdx n e.ids = ((keyIdx n e.ids).toNat : Int) := by omega
    have hlt2 : (keyIdx n e.ids).toNat < e.ids.length := hlt
    show stepB e ⟨ep, 6, n, 0, zeroId⟩ { e with ids := e.ids.eraseIdx (keyIdx n e.ids).toNat } ⟨ep, 5, 0, keyIdx n e.ids, y⟩
    clear hn h hp ht hx0 hlt hy
    revert hk0 hfirst hlt2 ht' hx0' hn'
    generalize (keyIdx n e.ids) = K
    intro hn' ht' hx0' hfirst hk0 hlt2
    generalize K.toNat = i at hx0' hfirst hk0 hlt2
    subst hk0
    rw [show (((i : Nat) : Int) + 1).toNat = i + 1 by omega] at ht'
    refine ⟨?_, ⟨⟨by show (1 : Int) ≤ 5; omega, by show (5 : Int) ≤ 12; omega⟩, rfl⟩, rfl⟩
    have hany : ((e.ids.eraseIdx i).any fun x => x.keyId == y.keyId) = false := by
      refine any_erase (fun j z hj hz => ?_)
      rw [hky] at hz
      have h1 := hfirst j z hj hz
      rcases Nat.lt_or_eq_of_le h1 with h2 | h2
      · exfalso; apply ht'; rw [List.any_eq_true]
        refine ⟨z, List.mem_of_getElem? (i := j - (i + 1)) ?_, hz⟩
        rw [List.getElem?_drop, show i + 1 + (j - (i + 1)) = j by omega]; exact hj
      · exact h2.symm
    rw [stepR_5 rfl, if_neg (by
      show ¬ ¬ (0 ≤ ((i : Nat) : Int) ∧ ((i : Nat) : Int) ≤ ((e.ids.eraseIdx i).length : Nat))
      rw [List.length_eraseIdx, if_pos hlt2]; omega), if_neg (by
      show ¬ 0 ≤ keyIdx y.keyId (e.ids.eraseIdx i)
      have := idx_none' hany
      unfold keyIdx; omega)]
    show Except.ok (({ e with ids := (e.ids.eraseIdx i).take i ++ [y] ++ (e.ids.eraseIdx i).drop i } : Ept), (⟨ep, 6, y.keyId, 0, zeroId⟩ : Chg)) = _
    rw [ins_erase hx0', hky]
  · obtain ⟨rfl, rfl⟩ := lean_s hc (by omega) (by omega)
    have hs := ascI_of he.anc
    rw [stepR_7 rfl] at h
    split at h
    · cases h
    next hn =>
    injection h with h; obtain ⟨rfl, rfl⟩ := Prod.mk.inj h
    have hp := posI_ins (n := n) hs
    refine ⟨?_, okS (by omega) (by omega), rfl⟩
    rw [stepR_8 rfl, if_pos (show hasX (insX e.anchors n) n = true from hp.2)]
    show Except.ok (({ e with anchors := (insX e.anchors n).eraseIdx (posI (insX e.anchors n) n) } : Ept), (⟨ep, 7, n, 0, zeroId⟩ : Chg)) = _
    rw [hp.1, erase_ins (posI_le _ _)]
  · obtain ⟨rfl, rfl⟩ := lean_s hc (by omega) (by omega)
    have hs := ascI_of he.anc
    rw [stepR_8 rfl] at h
    split at h
    next hn =>
      injection h with h; obtain ⟨rfl, rfl⟩ := Prod.mk.inj h
      have hn' : hasX e.anchors n = true := hn
      have hp := posI_del (n := n) hs hn'
      refine ⟨?_, okS (by omega) (by omega), rfl⟩
      rw [stepR_7 rfl, if_neg (show ¬ hasX (e.anchors.eraseIdx (posI e.anchors n)) n = true by rw [hp.2]; decide)]
      show Except.ok (({ e with anchors := insX (e.anchors.eraseIdx (posI e.anchors n)) n } : Ept), (⟨ep, 8, n, 0, zeroId⟩ : Chg)) = _
      unfold insX
      rw [hp.1, ins_erase (hasX_hit hn')]
    · cases h
  · obtain ⟨rfl, rfl⟩ := lean_s hc (by omega) (by omega)
    have hs := ascI_of he.hash
    rw [stepR_9 rfl] at h
    split at h
    · cases h
    next hn =>
    injection h with h; obtain ⟨rfl, rfl⟩ := Prod.mk.inj h
    have hp := posI_ins (n := n) hs
    refine ⟨?_, okS (by omega) (by omega), rfl⟩
    rw [stepR_10 rfl, if_pos (show hasX (insX e.hashes n) n = true from hp.2)]
    show Except.ok (({ e with hashes := (insX e.hashes n).eraseIdx (posI (insX e.hashes n) n) } : Ept), (⟨ep, 9, n, 0, zeroId⟩ : Chg)) = _
    rw [hp.1, erase_ins (posI_le _ _)]
  · obtain ⟨rfl, rfl⟩ := lean_s hc (by omega) (by omega)
    have hs := ascI_of he.hash
    rw [stepR_10 rfl] at h
    split at h
    next hn =>
      injection h with h; obtain ⟨rfl, rfl⟩ := Prod.mk.inj h
      have hn' : hasX e.hashes n = true := hn
      have hp := posI_del (n := n) hs hn'
      refine ⟨?_, okS (by omega) (by omega), rfl⟩
      rw [stepR_9 rfl, if_neg (show ¬ hasX (e.hashes.eraseIdx (posI e.hashes n)) n = true by rw [hp.2]; decide)]
      show Except.ok (({ e with hashes := insX (e.hashes.eraseIdx (posI e.hashes n)) n } : Ept), (⟨ep, 10, n, 0, zeroId⟩ : Chg)) = _
      unfold insX
      rw [hp.1, ins_erase (hasX_hit hn')]
    · cases h
  · obtain ⟨rfl, rfl⟩ := lean_s hc (by omega) (by omega)
    rw [stepR_11 rfl] at h
    split at h
    · cases h
    next hr =>
    split at h
    · cases h
    next hn =>
    injection h with h; obtain ⟨rfl, rfl⟩ := Prod.mk.inj h
    have hb := bit_back (Classical.not_not.1 hr) hn
    refine ⟨?_, okS (k := 11) (by omega) (by omega), rfl⟩
    rw [stepR_11 rfl, if_neg (show ¬ ¬ (0 ≤ bitI e.fall ∧ bitI e.fall ≤ 1) from fun h => h hb.1), if_neg (show ¬ bitI (n == 1) = bitI e.fall from hb.2.1)]
    show Except.ok (({ e with fall := (bitI e.fall == 1) } : Ept), (⟨ep, 11, bitI (n == 1), 0, zeroId⟩ : Chg)) = _
    rw [hb.2.2.1, hb.2.2.2]
  · obtain ⟨rfl, rfl⟩ := lean_s hc (by omega) (by omega)
    rw [stepR_12 rfl] at h
    split at h
    · cases h
    next hr =>
    split at h
    · cases h
    next hn =>
    injection h with h; obtain ⟨rfl, rfl⟩ := Prod.mk.inj h
    have hb := bit_back (Classical.not_not.1 hr) hn
    refine ⟨?_, okS (k := 12) (by omega) (by omega), rfl⟩
    rw [stepR_12 rfl, if_neg (show ¬ ¬ (0 ≤ bitI e.own ∧ bitI e.own ≤ 1) from fun h => h hb.1), if_neg (show ¬ bitI (n == 1) = bitI e.own from hb.2.1)]
    show Except.ok (({ e with own := (bitI e.own == 1) } : Ept), (⟨ep, 12, bitI (n == 1), 0, zeroId⟩ : Chg)) = _
    rw [hb.2.2.1, hb.2.2.2]

theorem done_back {e : Ept} {c : Chg} {x : Ept} {b : Chg} (h : doneR e c = (x, b, 0)) : doneR x b = (e, c, 0) ∧ b.endpoint = c.endpoint := by
  obtain ⟨h1, h2, h3, h4⟩ := doneR_inv h
  have h5 := step_back h1 h2 h3
  exact ⟨doneR_ok (eptB_iff.2 h4) h5.2.1 h5.1 (eptB_iff.2 h1), h5.2.2⟩

end Go.Proofs.YtflodcidhlmaaaaGreat
namespace Go.Proofs.YtflodcidhlmaaaaGreat
open Go Go.RowKit Cp

abbrev u8R : List Pr := [anyK .u8]
abbrev bts (m : Nat) : Pr := slice 1 (List.replicate m u8R)
abbrev bytesE (B : Nat) : Pr := Cp.ex fun m : Nat => fact (m ≤ B) (bts m)
abbrev anyB : Pr := Cp.ex fun b : Bool => bool b
abbrev rowQ (q : Pr) : List Pr := [anyK .i64, bytesE 1000, anyB, q]
abbrev elemsE (row : List Pr) : Pr := Cp.ex fun m : Nat => fact (m ≤ 20) (slice 4 (List.replicate m row))
abbrev depthE (D : Nat) : Pr := Cp.ex fun d : Int => fact (0 ≤ d ∧ d ≤ (D : Nat)) (int d)
theorem rep_at {r : List Pr} {m k : Nat} (h : k < m) : (List.replicate m r)[((k : Nat) : Int).toNat]? = some r := by rw [Int.toNat_natCast, List.getElem?_replicate, if_pos h]
theorem rep_one {r : List Pr} {m : Nat} : List.replicate m r ++ [r] = List.replicate (m + 1) r := by rw [List.replicate_succ']
theorem rep_add {r : List Pr} {m k : Nat} : List.replicate m r ++ List.replicate k r = List.replicate (m + k) r := by rw [List.replicate_append_replicate]
theorem LeL.refl : ∀ l : List Pr, LeL l l
  | [] => trivial
  | _ :: l => ⟨Pr.le_refl _, LeL.refl l⟩
/-- Rows that read less exactly. -/
theorem slice_le {sz : Nat} {rows rows' : List (List Pr)} (hl : rows.length = rows'.length) (h : ∀ (i : Nat) r r', rows[i]? = some r → rows'[i]? = some r' → r.length = r'.length ∧ ∀ (j : Nat) p p', r[j]? = some p → r'[j]? = some p' → Pr.le p p') : Pr.le (slice sz rows) (slice sz rows') := by
  rintro M w v ⟨a, cap, h1, h2, h3, h4, h5⟩
  refine ⟨a, cap, by rw [← hl]; exact h1, by rw [← hl]; exact h2, h3, h4, fun i row hr => ?_⟩
  have hi : i < rows.length := by rw [hl]; exact lt_of_at hr
  have hr0 := List.getElem?_eq_getElem hi
  obtain ⟨g1, g2⟩ := h i _ _ hr0 hr
  obtain ⟨k1, ad, k2, k3⟩ := h5 i _ hr0
  refine ⟨by rw [← g1]; exact k1, ad, k2, fun j p' hp' => ?_⟩
  have hj : j < rows[i].length := by rw [g1]; exact lt_of_at hp'
  have hp := List.getElem?_eq_getElem hj
  obtain ⟨u, c1, c2, c3, c4⟩ := k3 j _ hp
  exact ⟨u, c1, c2, c3, g2 j _ _ hp hp' _ _ _ c4⟩
theorem slice_rep {sz : Nat} {rows : List (List Pr)} {r : List Pr} (h : ∀ q ∈ rows, q.length = r.length ∧ ∀ (j : Nat) p p', q[j]? = some p → r[j]? = some p' → Pr.le p p') : Pr.le (slice sz rows) (slice sz (List.replicate rows.length r)) :=
  slice_le (by simp) fun i q q' hq hq' => by
    rw [List.getElem?_replicate, if_pos (lt_of_at hq)] at hq'
    cases hq'
    exact h q (List.mem_of_getElem? hq)
theorem bts_of {β : Type} {l : List β} {f : β → Int} : Pr.le (slice 1 (l.map fun x => [is (.int .u8 (f x))])) (bts l.length) := by
  have := slice_rep (sz := 1) (rows := l.map fun x => [is (.int .u8 (f x))]) (r := u8R) (by
    intro q hq
    obtain ⟨x, _, rfl⟩ := List.mem_map.1 hq
    refine ⟨rfl, fun j p p' hp hp' => ?_⟩
    cases j with
    | zero => simp at hp hp'; subst hp; subst hp'; exact is_anyK _ _
    | succ j => simp at hp)
  rwa [List.length_map] at this
theorem bytesE_in {B m : Nat} {p : Pr} (h : m ≤ B) (hp : Pr.le p (bts m)) : Pr.le p (bytesE B) := ex_in m (fact_in h hp)
/-- What an element is, cell by cell. -/
theorem Fun.rowQ {P : Program} {f : FuncId} {row : List Pr} {res : Pr} (h : ∀ (t : Int) (b : Nat) (n : Bool) (m : Nat), b ≤ 1000 → m ≤ 20 → Fun P f [agg [int t, bts b, bool n, slice 4 (List.replicate m row)]] res) : Fun P f [agg (rowQ (elemsE row))] res := by
  refine ⟨(h 0 0 false 0 (by omega) (by omega)).1, fun M w vs hb hv => ?_⟩
  match vs, hv with
  | [u0], hv1 =>
    obtain ⟨⟨cs, rfl, ho, hcs⟩, _⟩ := hv1
    match cs, hcs with
    | [c0, c1, c2, c3], hc =>
      obtain ⟨⟨t, h0⟩, ⟨b, hb1, h1⟩, ⟨n, h2⟩, ⟨m, hm1, h3⟩, _⟩ := hc
      exact (h t b n m hb1 hm1).2 M w _ hb ⟨⟨_, rfl, ho, h0, h1, h2, h3, trivial⟩, trivial⟩
theorem Fun.rowQ0 {P : Program} {f : FuncId} {res : Pr} (h : ∀ (t : Int) (b : Nat) (n : Bool), b ≤ 1000 → Fun P f [agg [int t, bts b, bool n, slice 4 []]] res) : Fun P f [agg [anyK .i64, bytesE 1000, anyB, slice 4 []]] res := by
  refine ⟨(h 0 0 false (by omega)).1, fun M w vs hb hv => ?_⟩
  match vs, hv with
  | [u0], hv1 =>
    obtain ⟨⟨cs, rfl, ho, hcs⟩, _⟩ := hv1
    match cs, hcs with
    | [c0, c1, c2, c3], hc =>
      obtain ⟨⟨t, h0⟩, ⟨b, hb1, h1⟩, ⟨n, h2⟩, h3, _⟩ := hc
      exact (h t b n hb1).2 M w _ hb ⟨⟨_, rfl, ho, h0, h1, h2, h3, trivial⟩, trivial⟩

set_option maxRecDepth 20000 in
theorem w_rtag {n : Int}  : Fun Tryz.prog 247 [int n] (bool (decide (1 ≤ n) && decide (n ≤ 255) && (n.tmod 32 != 31))) := by
 refine Fun.of Tryz.func247 rfl rfl (by exact Nat.le_of_ble_eq_true rfl) fun M0 w0 => ?_
 refine Tr.seq (Tr.reg0 (cm rfl (Ch.nil (Fin.go (Tr.seq (Tr.reg0 (cm rfl (co rfl (ki rfl rfl rfl rfl) (cm rfl ?_)))))))))
 refine Ch.cs 5 rfl ?_ ?_ <;> intro h1 q1
 refine cym h1 rfl (cy h1 rfl (ki rfl rfl rfl rfl) (co rfl (kpt rfl rfl h1 rfl) (cm rfl ?_)))
 refine Ch.cs 9 rfl ?_ ?_ <;> intro h2 q2
 refine cym h2 rfl (cy h2 rfl (ok_rem rfl (vl rfl) (vl rfl) (by omega)) (cy h2 rfl (ki rfl rfl rfl rfl) (co rfl (kpt rfl rfl h2 rfl) (cm rfl (Ch.nil (Fin.go (Tr.ret (Fin.ret1 rfl (OutW.bse _ _) rfl ?_))))))))
 · refine bool_eq ?_; simp_all
 refine cnt h2 rfl (cnt h2 rfl (cnt h2 rfl (co rfl (kpf rfl rfl h2 rfl) (cm rfl (Ch.nil (Fin.go (Tr.ret (Fin.ret1 rfl (OutW.bse _ _) rfl ?_))))))))
 · refine bool_eq ?_; simp_all; omega
 refine cnt h1 rfl (cnt h1 rfl (co rfl (kpf rfl rfl h1 rfl) (cm rfl (cnd rfl rfl (cnd rfl rfl (cnd rfl rfl (co rfl (kpf rfl rfl rfl rfl) (cm rfl (Ch.nil (Fin.go (Tr.ret (Fin.ret1 rfl (OutW.bse _ _) rfl ?_))))))))))))
 · refine bool_eq ?_; simp_all; omega
set_option maxRecDepth 20000 in
theorem w_rformed {t : Int} {b : Nat} {n : Bool} {m : Nat} {q : Pr}  (hb : b ≤ 1000) (hm : m ≤ 20) (ih : m = 0 ∨ Fun Tryz.prog 210 [agg (rowQ q)] (anyB)) : Fun Tryz.prog 210 [agg [int t, bts b, bool n, slice 4 (List.replicate m (rowQ q))]] (anyB) := by
 refine Fun.of Tryz.func210 rfl rfl (by exact Nat.le_of_ble_eq_true rfl) fun M0 w0 => ?_
 have hlr : (List.replicate m (rowQ q)).length = m := List.length_replicate
 have hlb : (List.replicate b u8R).length = b := List.length_replicate
 refine Tr.seq (Tr.reg0 (co rfl (ok_box rfl (VL.le (vl rfl) (agg_cellsP _))) (cm rfl (Ch.nil (Fin.go (Tr.seq (Tr.seq (Tr.reg0 (co rfl (kfa rfl fo195_0 rfl rfl) (co rfl (kl1 rfl one3 rfl) (co rfl (ok_call rfl (w_rtag) ⟨ke rfl, trivial⟩) (co rfl (ok_not rfl (vl rfl)) (cm rfl ?_)))))))))))))
 refine Ch.cs 8 rfl ?_ ?_ <;> intro h1 q1
 iterate 8 refine cnf h1 rfl ?_
 refine co rfl (kpt rfl rfl h1 rfl) (cm rfl (cnd rfl rfl (cnd rfl rfl (cnd rfl rfl ?_))))
 iterate 4 refine cu rfl ?_
 refine cnd rfl rfl (co rfl (kpt rfl rfl rfl rfl) (cm rfl ?_))
 iterate 4 refine cnd rfl rfl ?_
 iterate 4 refine cu rfl ?_
 refine cnd rfl rfl (co rfl (kpt rfl rfl rfl rfl) (Ch.nil (Fin.go (wk2 1 38 rfl (Tr.cond rfl (fun _ => ?_) (fun h => nomatch h))))))
 refine Tr.seq (Tr.reg0 (cm rfl (Ch.nil (Fin.go (Tr.ret (Fin.then_ret (Fin.ret1 rfl (OutW.bse _ _) rfl ?_)))))))
 · exact ex_in _ (Pr.le_refl _)
 refine cy h1 rfl (kfa rfl fo195_2 rfl rfl) (cy h1 rfl (kl1 rfl one4 rfl) (cy h1 rfl (kfa rfl fo195_0 rfl rfl) (cy h1 rfl (kl1 rfl one3 rfl) (cy h1 rfl (ok_quo rfl (vl rfl) (vl rfl) (by omega)) (cy h1 rfl (ok_rem rfl (vl rfl) (vl rfl) (by omega)) (cy h1 rfl (ki rfl rfl rfl rfl) (cy h1 rfl (ok_neb rfl Tryz.underlying4 (vl rfl) (vl rfl)) (co rfl (kpf rfl rfl h1 rfl) (cm rfl ?_)))))))))
 refine Ch.cs 18 rfl ?_ ?_ <;> intro h2 q2
 refine cnf h2 rfl (cnf h2 rfl (cnf h2 rfl ?_))
 iterate 4 refine cu rfl ?_
 refine cnf h2 rfl (co rfl (kpt rfl rfl h2 rfl) (cm rfl ?_))
 iterate 4 refine cnd rfl rfl ?_
 iterate 4 refine cu rfl ?_
 refine cnd rfl rfl (co rfl (kpt rfl rfl rfl rfl) (Ch.nil (Fin.go (wk2 1 38 rfl (Tr.cond rfl (fun _ => ?_) (fun h => nomatch h))))))
 refine Tr.seq (Tr.reg0 (cm rfl (Ch.nil (Fin.go (Tr.ret (Fin.then_ret (Fin.ret1 rfl (OutW.bse _ _) rfl ?_)))))))
 · exact ex_in _ (Pr.le_refl _)
 refine cy h2 rfl (kfa rfl fo195_2 rfl rfl) (cy h2 rfl (kl1 rfl one4 rfl) (cym h2 rfl ?_))
 refine Ch.cs 21 rfl ?_ ?_ <;> intro h3 q3
 refine cy h3 rfl (kfa rfl fo195_1 rfl rfl) (cy h3 rfl (kl1 rfl one176 rfl) (cy h3 rfl (ok_len rfl Tryz.underlying176 (vl rfl)) (cy h3 rfl (ki rfl rfl rfl rfl) (cy h2 rfl (kpt rfl rfl h3 rfl) (co rfl (kpf rfl rfl h2 rfl) (cm rfl ?_))))))
 refine Ch.cs 28 rfl ?_ ?_ <;> intro h4 q4
 iterate 4 refine cnf h4 rfl ?_
 iterate 4 refine cu rfl ?_
 refine cnf h4 rfl (co rfl (kpt rfl rfl h4 rfl) (Ch.nil (Fin.go (wk2 1 38 rfl (Tr.cond rfl (fun _ => ?_) (fun h => nomatch h))))))
 refine Tr.seq (Tr.reg0 (cm rfl (Ch.nil (Fin.go (Tr.ret (Fin.then_ret (Fin.ret1 rfl (OutW.bse _ _) rfl ?_)))))))
 · exact ex_in _ (Pr.le_refl _)
 refine cy h4 rfl (kfa rfl fo195_2 rfl rfl) (cy h4 rfl (kl1 rfl one4 rfl) (cy h4 rfl (ok_not rfl (vl rfl)) (cym h4 rfl ?_)))
 refine Ch.cs 32 rfl ?_ ?_ <;> intro h5 q5
 refine cy h5 rfl (kfa rfl fo195_3 rfl rfl) (cy h5 rfl (kl1 rfl one193 rfl) (cy h5 rfl (ok_len rfl Tryz.underlying193 (vl rfl)) (cy h5 rfl (ki rfl rfl rfl rfl) (cy h4 rfl (kpt rfl rfl h5 rfl) (co rfl (kpf rfl rfl h4 rfl) (Ch.nil (Fin.go (wk2 1 38 rfl ?_))))))))
 refine Tr.cn rfl ?_ ?_ <;> intro h6 q6
 refine Tr.seq (Tr.reg0 (cm rfl (Ch.nil (Fin.go (Tr.ret (Fin.then_ret (Fin.ret1 rfl (OutW.bse _ _) rfl ?_)))))))
 · exact ex_in _ (Pr.le_refl _)
 refine Tr.skip (Fin.go (Tr.seq (Tr.seq (Tr.reg0 (cm rfl (Ch.nil (Fin.go (Tr.block (Tr.loopw [(1, _)] ⟨ke rfl, trivial⟩ (fun k : Nat => [(3, int ((k : Nat) : Int))]) (fun k : Nat => k ≤ ((List.replicate m (rowQ q)).length)) (fun k : Nat => ((List.replicate m (rowQ q)).length) - k) 0 (Nat.zero_le _) ⟨ke rfl, trivial⟩ ?_)))))))))
 rintro k hle_k
 refine Tr.seq (Tr.seq (Tr.reg0 (cm rfl (co rfl (kfa rfl fo195_3 rfl rfl) (co rfl (kl1 rfl one193 rfl) (co rfl (ok_len rfl Tryz.underlying193 (vl rfl)) (co rfl (ki rfl rfl rfl rfl) (Ch.nil (Fin.go ?_)))))))))
 refine Tr.cn rfl ?_ ?_ <;> intro h7 q7
 have hk_k : k < ((List.replicate m (rowQ q)).length) := lt_of_dec h7
 have hkm : k < m := by simpa using hk_k
 have ih2 := ih.resolve_left (by omega)
 refine Tr.skip (Fin.go (Tr.seq (Tr.block (Tr.seq (Tr.regT (tp rfl (kfa rfl fo195_3 rfl rfl) (tp rfl (kl1 rfl one193 rfl) (tm rfl (tp rfl (ok_indexAddr rfl Tryz.underlying193 sz195 (vl rfl) (vl rfl) (by omega) (rep_at hkm)) (tp rfl (ok_loadA rfl agg195 sz195 (vl rfl) rfl rfl) (tp rfl (ok_call rfl (ih2) ⟨ke rfl, trivial⟩) ?_)))))))))))
 refine TO.ex 51 rfl (fun z51 => ?_)
 refine tp rfl (ok_not rfl (vl rfl)) (TO.nil (Fin.go (wk3 1 3 52 rfl ?_)))
 refine Tr.cn rfl ?_ ?_ <;> intro h8 q8
 refine Tr.seq (Tr.reg0 (cm rfl (Ch.nil (Fin.go (Tr.ret (Fin.block_ret (Fin.then_ret (Fin.then_ret (Fin.block_ret (Fin.then_ret (Fin.ret1 rfl (OutW.bse _ _) rfl ?_)))))))))))
 · exact ex_in _ (Pr.le_refl _)
 refine Tr.skip (Fin.block (Fin.go (Tr.reg0 (cm rfl (cad rfl rfl rfl rfl (by omega) (cm rfl (Ch.nil (Fin.fam_same (k + 1) ⟨hk_k, by omega⟩ ⟨⟨_, rfl, int_succ k⟩, ke rfl, trivial⟩))))))))
 have he_k : k = ((List.replicate m (rowQ q)).length) := by have := ge_of_dec h7; omega
 refine Tr.exit (Fin.then_exit (Fin.then_exit (Fin.block_here (Fin.go (Tr.seq (Tr.reg0 (cm rfl (Ch.nil (Fin.go (Tr.ret (Fin.ret1 rfl (OutW.bse _ _) rfl ?_)))))))))))
 · exact ex_in _ (Pr.le_refl _)
 iterate 4 refine cnt h5 rfl ?_
 refine cy h4 rfl (kpf rfl rfl h5 rfl) (co rfl (kpf rfl rfl h4 rfl) (Ch.nil (Fin.go (wk2 1 38 rfl (Tr.cond rfl (fun h => nomatch h) (fun _ => ?_))))))
 refine Tr.skip (Fin.go (Tr.seq (Tr.seq (Tr.reg0 (cm rfl (Ch.nil (Fin.go (Tr.block (Tr.loopw [(1, _)] ⟨ke rfl, trivial⟩ (fun k : Nat => [(3, int ((k : Nat) : Int))]) (fun k : Nat => k ≤ ((List.replicate m (rowQ q)).length)) (fun k : Nat => ((List.replicate m (rowQ q)).length) - k) 0 (Nat.zero_le _) ⟨ke rfl, trivial⟩ ?_)))))))))
 rintro k hle_k
 refine Tr.seq (Tr.seq (Tr.reg0 (cm rfl (co rfl (kfa rfl fo195_3 rfl rfl) (co rfl (kl1 rfl one193 rfl) (co rfl (ok_len rfl Tryz.underlying193 (vl rfl)) (co rfl (ki rfl rfl rfl rfl) (Ch.nil (Fin.go ?_)))))))))
 refine Tr.cn rfl ?_ ?_ <;> intro h9 q9
 have hk_k : k < ((List.replicate m (rowQ q)).length) := lt_of_dec h9
 have hkm : k < m := by simpa using hk_k
 have ih2 := ih.resolve_left (by omega)
 refine Tr.skip (Fin.go (Tr.seq (Tr.block (Tr.seq (Tr.regT (tp rfl (kfa rfl fo195_3 rfl rfl) (tp rfl (kl1 rfl one193 rfl) (tm rfl (tp rfl (ok_indexAddr rfl Tryz.underlying193 sz195 (vl rfl) (vl rfl) (by omega) (rep_at hkm)) (tp rfl (ok_loadA rfl agg195 sz195 (vl rfl) rfl rfl) (tp rfl (ok_call rfl (ih2) ⟨ke rfl, trivial⟩) ?_)))))))))))
 refine TO.ex 51 rfl (fun z51 => ?_)
 refine tp rfl (ok_not rfl (vl rfl)) (TO.nil (Fin.go (wk3 1 3 52 rfl ?_)))
 refine Tr.cn rfl ?_ ?_ <;> intro h10 q10
 refine Tr.seq (Tr.reg0 (cm rfl (Ch.nil (Fin.go (Tr.ret (Fin.block_ret (Fin.then_ret (Fin.then_ret (Fin.block_ret (Fin.then_ret (Fin.ret1 rfl (OutW.bse _ _) rfl ?_)))))))))))
 · exact ex_in _ (Pr.le_refl _)
 refine Tr.skip (Fin.block (Fin.go (Tr.reg0 (cm rfl (cad rfl rfl rfl rfl (by omega) (cm rfl (Ch.nil (Fin.fam_same (k + 1) ⟨hk_k, by omega⟩ ⟨⟨_, rfl, int_succ k⟩, ke rfl, trivial⟩))))))))
 have he_k : k = ((List.replicate m (rowQ q)).length) := by have := ge_of_dec h9; omega
 refine Tr.exit (Fin.then_exit (Fin.then_exit (Fin.block_here (Fin.go (Tr.seq (Tr.reg0 (cm rfl (Ch.nil (Fin.go (Tr.ret (Fin.ret1 rfl (OutW.bse _ _) rfl ?_)))))))))))
 · exact ex_in _ (Pr.le_refl _)
 iterate 4 refine cnt h3 rfl ?_
 refine cy h2 rfl (kpf rfl rfl h3 rfl) (co rfl (kpf rfl rfl h2 rfl) (cm rfl (cy rfl rfl (kfa rfl fo195_2 rfl rfl) (cy rfl rfl (kl1 rfl one4 rfl) (cy rfl rfl (ok_not rfl (vl rfl)) (cym rfl rfl ?_))))))
 refine Ch.cs 32 rfl ?_ ?_ <;> intro h11 q11
 refine cy h11 rfl (kfa rfl fo195_3 rfl rfl) (cy h11 rfl (kl1 rfl one193 rfl) (cy h11 rfl (ok_len rfl Tryz.underlying193 (vl rfl)) (cy h11 rfl (ki rfl rfl rfl rfl) (cy rfl rfl (kpt rfl rfl h11 rfl) (co rfl (kpf rfl rfl rfl rfl) (Ch.nil (Fin.go (wk2 1 38 rfl ?_))))))))
 refine Tr.cn rfl ?_ ?_ <;> intro h12 q12
 refine Tr.seq (Tr.reg0 (cm rfl (Ch.nil (Fin.go (Tr.ret (Fin.then_ret (Fin.ret1 rfl (OutW.bse _ _) rfl ?_)))))))
 · exact ex_in _ (Pr.le_refl _)
 refine Tr.skip (Fin.go (Tr.seq (Tr.seq (Tr.reg0 (cm rfl (Ch.nil (Fin.go (Tr.block (Tr.loopw [(1, _)] ⟨ke rfl, trivial⟩ (fun k : Nat => [(3, int ((k : Nat) : Int))]) (fun k : Nat => k ≤ ((List.replicate m (rowQ q)).length)) (fun k : Nat => ((List.replicate m (rowQ q)).length) - k) 0 (Nat.zero_le _) ⟨ke rfl, trivial⟩ ?_)))))))))
 rintro k hle_k
 refine Tr.seq (Tr.seq (Tr.reg0 (cm rfl (co rfl (kfa rfl fo195_3 rfl rfl) (co rfl (kl1 rfl one193 rfl) (co rfl (ok_len rfl Tryz.underlying193 (vl rfl)) (co rfl (ki rfl rfl rfl rfl) (Ch.nil (Fin.go ?_)))))))))
 refine Tr.cn rfl ?_ ?_ <;> intro h13 q13
 have hk_k : k < ((List.replicate m (rowQ q)).length) := lt_of_dec h13
 have hkm : k < m := by simpa using hk_k
 have ih2 := ih.resolve_left (by omega)
 refine Tr.skip (Fin.go (Tr.seq (Tr.block (Tr.seq (Tr.regT (tp rfl (kfa rfl fo195_3 rfl rfl) (tp rfl (kl1 rfl one193 rfl) (tm rfl (tp rfl (ok_indexAddr rfl Tryz.underlying193 sz195 (vl rfl) (vl rfl) (by omega) (rep_at hkm)) (tp rfl (ok_loadA rfl agg195 sz195 (vl rfl) rfl rfl) (tp rfl (ok_call rfl (ih2) ⟨ke rfl, trivial⟩) ?_)))))))))))
 refine TO.ex 51 rfl (fun z51 => ?_)
 refine tp rfl (ok_not rfl (vl rfl)) (TO.nil (Fin.go (wk3 1 3 52 rfl ?_)))
 refine Tr.cn rfl ?_ ?_ <;> intro h14 q14
 refine Tr.seq (Tr.reg0 (cm rfl (Ch.nil (Fin.go (Tr.ret (Fin.block_ret (Fin.then_ret (Fin.then_ret (Fin.block_ret (Fin.then_ret (Fin.ret1 rfl (OutW.bse _ _) rfl ?_)))))))))))
 · exact ex_in _ (Pr.le_refl _)
 refine Tr.skip (Fin.block (Fin.go (Tr.reg0 (cm rfl (cad rfl rfl rfl rfl (by omega) (cm rfl (Ch.nil (Fin.fam_same (k + 1) ⟨hk_k, by omega⟩ ⟨⟨_, rfl, int_succ k⟩, ke rfl, trivial⟩))))))))
 have he_k : k = ((List.replicate m (rowQ q)).length) := by have := ge_of_dec h13; omega
 refine Tr.exit (Fin.then_exit (Fin.then_exit (Fin.block_here (Fin.go (Tr.seq (Tr.reg0 (cm rfl (Ch.nil (Fin.go (Tr.ret (Fin.ret1 rfl (OutW.bse _ _) rfl ?_)))))))))))
 · exact ex_in _ (Pr.le_refl _)
 iterate 4 refine cnt h11 rfl ?_
 refine cy rfl rfl (kpf rfl rfl h11 rfl) (co rfl (kpf rfl rfl rfl rfl) (Ch.nil (Fin.go (wk2 1 38 rfl (Tr.cond rfl (fun h => nomatch h) (fun _ => ?_))))))
 refine Tr.skip (Fin.go (Tr.seq (Tr.seq (Tr.reg0 (cm rfl (Ch.nil (Fin.go (Tr.block (Tr.loopw [(1, _)] ⟨ke rfl, trivial⟩ (fun k : Nat => [(3, int ((k : Nat) : Int))]) (fun k : Nat => k ≤ ((List.replicate m (rowQ q)).length)) (fun k : Nat => ((List.replicate m (rowQ q)).length) - k) 0 (Nat.zero_le _) ⟨ke rfl, trivial⟩ ?_)))))))))
 rintro k hle_k
 refine Tr.seq (Tr.seq (Tr.reg0 (cm rfl (co rfl (kfa rfl fo195_3 rfl rfl) (co rfl (kl1 rfl one193 rfl) (co rfl (ok_len rfl Tryz.underlying193 (vl rfl)) (co rfl (ki rfl rfl rfl rfl) (Ch.nil (Fin.go ?_)))))))))
 refine Tr.cn rfl ?_ ?_ <;> intro h15 q15
 have hk_k : k < ((List.replicate m (rowQ q)).length) := lt_of_dec h15
 have hkm : k < m := by simpa using hk_k
 have ih2 := ih.resolve_left (by omega)
 refine Tr.skip (Fin.go (Tr.seq (Tr.block (Tr.seq (Tr.regT (tp rfl (kfa rfl fo195_3 rfl rfl) (tp rfl (kl1 rfl one193 rfl) (tm rfl (tp rfl (ok_indexAddr rfl Tryz.underlying193 sz195 (vl rfl) (vl rfl) (by omega) (rep_at hkm)) (tp rfl (ok_loadA rfl agg195 sz195 (vl rfl) rfl rfl) (tp rfl (ok_call rfl (ih2) ⟨ke rfl, trivial⟩) ?_)))))))))))
 refine TO.ex 51 rfl (fun z51 => ?_)
 refine tp rfl (ok_not rfl (vl rfl)) (TO.nil (Fin.go (wk3 1 3 52 rfl ?_)))
 refine Tr.cn rfl ?_ ?_ <;> intro h16 q16
 refine Tr.seq (Tr.reg0 (cm rfl (Ch.nil (Fin.go (Tr.ret (Fin.block_ret (Fin.then_ret (Fin.then_ret (Fin.block_ret (Fin.then_ret (Fin.ret1 rfl (OutW.bse _ _) rfl ?_)))))))))))
 · exact ex_in _ (Pr.le_refl _)
 refine Tr.skip (Fin.block (Fin.go (Tr.reg0 (cm rfl (cad rfl rfl rfl rfl (by omega) (cm rfl (Ch.nil (Fin.fam_same (k + 1) ⟨hk_k, by omega⟩ ⟨⟨_, rfl, int_succ k⟩, ke rfl, trivial⟩))))))))
 have he_k : k = ((List.replicate m (rowQ q)).length) := by have := ge_of_dec h15; omega
 refine Tr.exit (Fin.then_exit (Fin.then_exit (Fin.block_here (Fin.go (Tr.seq (Tr.reg0 (cm rfl (Ch.nil (Fin.go (Tr.ret (Fin.ret1 rfl (OutW.bse _ _) rfl ?_)))))))))))
 · exact ex_in _ (Pr.le_refl _)
set_option maxRecDepth 20000 in
theorem w_rdepth {t : Int} {b : Nat} {n : Bool} {m : Nat} {q : Pr} {D : Nat}  (hb : b ≤ 1000) (hm : m ≤ 20) (hD : D ≤ 1000) (ih : m = 0 ∨ Fun Tryz.prog 211 [agg (rowQ q)] (depthE D)) : Fun Tryz.prog 211 [agg [int t, bts b, bool n, slice 4 (List.replicate m (rowQ q))]] (depthE (D + 1)) := by
 refine Fun.of Tryz.func211 rfl rfl (by exact Nat.le_of_ble_eq_true rfl) fun M0 w0 => ?_
 have hlr : (List.replicate m (rowQ q)).length = m := List.length_replicate
 have hlb : (List.replicate b u8R).length = b := List.length_replicate
 refine Tr.seq (Tr.reg0 (co rfl (ok_box rfl (VL.le (vl rfl) (agg_cellsP _))) (cm rfl (Ch.nil (Fin.go (Tr.seq (Tr.reg0 (cm rfl (Ch.nil (Fin.go (Tr.seq (Tr.seq (Tr.reg0 ?_)))))))))))))
 refine cm rfl (Ch.nil (Fin.go (Tr.block (Tr.loopw [(1, _)] ⟨ke rfl, trivial⟩ (fun k : Nat => [(4, int ((k : Nat) : Int)), (3, depthE D)]) (fun k : Nat => k ≤ ((List.replicate m (rowQ q)).length)) (fun k : Nat => ((List.replicate m (rowQ q)).length) - k) 0 (Nat.zero_le _) ⟨ke rfl, ⟨_, rfl, ex_in 0 (fact_in (by omega) (Pr.le_refl _))⟩, trivial⟩ ?_))))
 rintro k hle_k
 refine Tr.seq (Tr.seq (Tr.reg0 (cm rfl (co rfl (kfa rfl fo195_3 rfl rfl) (co rfl (kl1 rfl one193 rfl) (co rfl (ok_len rfl Tryz.underlying193 (vl rfl)) (co rfl (ki rfl rfl rfl rfl) (Ch.nil (Fin.go ?_)))))))))
 refine Tr.cn rfl ?_ ?_ <;> intro h1 q1
 have hk_k : k < ((List.replicate m (rowQ q)).length) := lt_of_dec h1
 have hkm : k < m := by simpa using hk_k
 have ih2 := ih.resolve_left (by omega)
 refine Tr.skip (Fin.go (Tr.seq (Tr.block (Tr.regT (tm rfl ?_)))))
 refine TO.ex 12 rfl (fun z12 => TO.fact 12 rfl fun hz12 => ?_)
 refine tp rfl (kfa rfl fo195_3 rfl rfl) (tp rfl (kl1 rfl one193 rfl) (tm rfl (tp rfl (ok_indexAddr rfl Tryz.underlying193 sz195 (vl rfl) (vl rfl) (by omega) (rep_at hkm)) (tp rfl (ok_loadA rfl agg195 sz195 (vl rfl) rfl rfl) (tp rfl (ok_call rfl (ih2) ⟨ke rfl, trivial⟩) ?_)))))
 refine TO.ex 18 rfl (fun z18 => TO.fact 18 rfl fun hz18 => ?_)
 refine tp rfl (ok_max rfl (vl rfl) (vl rfl)) (tm rfl (TO.nil (Fin.block (Fin.go (wk3 1 3 4 rfl (Tr.reg0 (cm rfl (cad rfl rfl rfl rfl (by omega) (cm rfl (Ch.nil (Fin.fam_same (k + 1) ⟨hk_k, by omega⟩ ⟨⟨_, rfl, int_succ k⟩, ⟨_, rfl, ex_in _ (fact_in (by omega) (Pr.le_refl _))⟩, ke rfl, trivial⟩)))))))))))
 have he_k : k = ((List.replicate m (rowQ q)).length) := by have := ge_of_dec h1; omega
 refine Tr.exit (Fin.then_exit (Fin.then_exit (Fin.block_here (Fin.go (Tr.seq (Tr.regT (tm rfl ?_)))))))
 refine TO.ex 20 rfl (fun z20 => TO.fact 20 rfl fun hz20 => ?_)
 refine tp rfl (ok_add rfl (vl rfl) (vl rfl) ?hin) ?_; case hin => unfold InI; omega
 refine tm rfl (TO.nil (Fin.go (Tr.ret (Fin.ret1 rfl (OutW.bse _ _) rfl ?_))))
 · exact ex_in _ (fact_in (by omega) (Pr.le_refl _))
/-- How many digits to the base 256. -/
def digC (n : Nat) : Nat := if h : n = 0 then 0 else 1 + digC (n / 256)
termination_by n
decreasing_by omega
theorem digC_zero : digC 0 = 0 := by unfold digC; simp
theorem digC_pos {n : Nat} (h : 0 < n) : digC n = 1 + digC (n / 256) := by conv => lhs; unfold digC; rw [dif_neg (by omega)]
theorem digC_le : ∀ (n : Nat), digC n ≤ n := by
  intro n
  induction n using Nat.strongRecOn with
  | _ n ih =>
    rcases Nat.eq_zero_or_pos n with h | h
    · subst h; rw [digC_zero]; omega
    · rw [digC_pos h]; have := ih (n / 256) (by omega); omega
def lenC (n : Nat) : Nat := if n < 128 then 1 else 1 + digC n
theorem lenC_le (n : Nat) : lenC n ≤ n + 1 := by unfold lenC; have := digC_le n; split <;> omega
theorem bts_one (k : Int) : Pr.le (slice 1 [[is (.int .u8 k)]]) (bts 1) := bts_of (l := [()]) (f := fun _ => k)

set_option maxRecDepth 20000 in
theorem w_rlength {n : Nat} (hn : n ≤ 100000000) : Fun Tryz.prog 248 [int ((n : Nat) : Int)] (bts (lenC n)) := by
 refine Fun.of Tryz.func248 rfl rfl (by exact Nat.le_of_ble_eq_true rfl) fun M0 w0 => ?_
 refine Tr.seq (Tr.reg0 (cm rfl (Ch.nil (Fin.go (Tr.seq (Tr.seq (Tr.reg0 (cm rfl (co rfl (ki rfl rfl rfl rfl) (Ch.nil (Fin.go ?_)))))))))))
 refine Tr.cn rfl ?_ ?_ <;> intro h1 q1
 refine Tr.seq (Tr.reg0 (cm rfl (co rfl (ok_conv rfl Tryz.underlying3 Tryz.underlying5 (vl rfl)) (co rfl (ok_buildSlice (xs := [.tmp 7]) (rows := [u8R]) rfl rfl Tryz.underlying176 sz5 z5 rfl (by decide) ⟨⟨(by exact rfl), VL.le (vl rfl) (Pr.le_trans (is_anyK _ _) (one_cellsP _))⟩, trivial⟩ (by decide)) ?_))))
 refine cm rfl (Ch.nil (Fin.go (Tr.ret (Fin.then_ret (Fin.ret1 rfl (OutW.bse _ _) rfl ?_)))))
 · refine Pr.le_trans (full_le _ _) (Pr.le_of_eq ?_); unfold lenC; rw [if_pos (by omega)]; rfl
 refine Tr.skip (Fin.go (Tr.seq (Tr.reg0 (cm rfl (Ch.nil (Fin.go (Tr.seq (Tr.block (Tr.addnil 5 1 (Tr.loopD2V1 [] trivial (fun (k : Nat) (acc : Nat) v => [(0, int ((k : Nat) : Int)), (3, andIs v (bts acc))]) (fun (k : Nat) (acc : Nat) v => Hp M0 w0 noS ([appRes 5 1 v])) (fun (k : Nat) (acc : Nat) => digC k + acc = digC n ∧ k ≤ n) (fun (k : Nat) (acc : Nat) => k) (n) (0) (.slice none 0 0) (⟨by omega, by omega⟩) ⟨ke rfl, ⟨_, rfl, own_nil rfl⟩, trivial⟩ (fun _ _ h => h) ?_))))))))))
 rintro k acc v ⟨hk1, hk2⟩
 refine Tr.seq (Tr.seq (Tr.reg0 (cm rfl (co rfl (ki rfl rfl rfl rfl) (Ch.nil (Fin.go ?_))))))
 refine Tr.cn rfl ?_ ?_ <;> intro h2 q2
 have hk0 : 0 < k := by have := Nrm.nrm h2; omega
 have hdg := digC_pos hk0
 have hle := digC_le n
 refine Tr.skip (Fin.go (Tr.block (Tr.seq (Tr.regT (tm rfl (tp rfl (ok_rem rfl (vl rfl) (vl rfl) (by omega)) (tp rfl (ok_conv rfl Tryz.underlying3 Tryz.underlying5 (vl rfl)) (tp rfl (ok_buildSlice (xs := [.tmp 13]) (rows := [u8R]) rfl rfl Tryz.underlying176 sz5 z5 rfl (by decide) ⟨⟨(by exact rfl), VL.le (vl rfl) (Pr.le_trans (is_anyK _ _) (one_cellsP _))⟩, trivial⟩ (by decide)) ?_))))))))
 refine tm rfl (TO.pad ?_)
 refine TO.efs 0 rfl rfl (by decide) (ef_append rfl rfl (by decide) rfl Tryz.underlying176 sz5 by5 z5 rfl (by decide) ⟨_, rfl, full_le _ _⟩ ⟨_, rfl, andIs_le _ _⟩ (by simp only [List.length_append, List.length_replicate, List.length_cons, List.length_nil]; unfold maxLen; omega) (by simp only [List.length_append, List.length_replicate, List.length_cons, List.length_nil]; omega) (appR_full (by exact List.Mem.head _) (vl rfl))) (fun v1 => ?_)
 refine tm rfl (TO.nil (Fin.go (Tr.reg0 (cm rfl (co rfl (ok_quo rfl (vl rfl) (vl rfl) (by omega)) (cm rfl (Ch.nil (Fin.block (Fin.drop 1 ?_)))))))))
 exact Fin.famD2V1 (k / 256) (acc + 1) v1 (⟨⟨by omega, by omega⟩, by omega⟩) ⟨⟨_, rfl, int_eq (by rw [Int.tdiv_eq_ediv_of_nonneg (by omega), wrap_in (by unfold InI; omega)]; omega)⟩, ⟨_, rfl, own_le (by rw [show ([u8R] : List (List Pr)) = List.replicate 1 u8R from rfl, rep_add, Nat.add_comm])⟩, trivial⟩ (fun _ _ h => h)
 have hk0 : k = 0 := by have := Nrm.nrm h2; omega
 subst hk0
 have hle := digC_le n
 rw [digC_zero] at hk1
 refine Tr.exit (Fin.then_exit (Fin.then_exit (Fin.block_here (Fin.go (Tr.seq (Tr.regT (tm rfl (tp rfl (ok_len rfl Tryz.underlying176 ⟨_, rfl, andIs_le _ _⟩) (tp rfl (ki rfl rfl rfl rfl) (tp rfl (ok_conv rfl Tryz.underlying3 Tryz.underlying5 (vl rfl)) (tp rfl (ok_buildSlice (xs := [.tmp 22]) (rows := [u8R]) rfl rfl Tryz.underlying176 sz5 z5 rfl (by decide) ⟨⟨(by exact rfl), VL.le (vl rfl) (Pr.le_trans (is_anyK _ _) (one_cellsP _))⟩, trivial⟩ (by decide)) ?_)))))))))))
 refine tm rfl (TO.pad ?_)
 refine TO.efs 0 rfl rfl (by decide) (ef_append rfl rfl (by decide) rfl Tryz.underlying176 sz5 by5 z5 rfl (by decide) ⟨_, rfl, full_le _ _⟩ ⟨_, rfl, andIs_le _ _⟩ (by simp only [List.length_append, List.length_replicate, List.length_cons, List.length_nil]; unfold maxLen; omega) (by simp only [List.length_append, List.length_replicate, List.length_cons, List.length_nil]; omega) (appR_full (by exact List.Mem.head _) (vl rfl))) (fun v2 => ?_)
 refine tm rfl (TO.nil (Fin.go (Tr.ret (Fin.ret1 rfl (OutW.bse _ _) rfl ?_))))
 · refine Pr.le_trans (andIs_le _ _) (Pr.le_of_eq ?_); unfold lenC; rw [if_neg (by omega), show ([u8R] : List (List Pr)) = List.replicate 1 u8R from rfl, rep_add, show acc = digC n by omega]
end Go.Proofs.YtflodcidhlmaaaaGreat
namespace Go.Proofs.YtflodcidhlmaaaaGreat
open Go Go.RowKit Cp
set_option maxRecDepth 20000 in
theorem w_rput {t : Int} {b : Nat} {n : Bool} {m : Nat} {q : Pr} {B : Nat}  (hb : b ≤ 1000) (hm : m ≤ 20) (hB : B ≤ 1000000) (ih : m = 0 ∨ Fun Tryz.prog 212 [agg (rowQ q)] (bytesE B)) : Fun Tryz.prog 212 [agg [int t, bts b, bool n, slice 4 (List.replicate m (rowQ q))]] (bytesE (2 * (1000 + 20 * B) + 2)) := by
 refine Fun.of Tryz.func212 rfl rfl (by exact Nat.le_of_ble_eq_true rfl) fun M0 w0 => ?_
 have hlr : (List.replicate m (rowQ q)).length = m := List.length_replicate
 have hlb : (List.replicate b u8R).length = b := List.length_replicate
 refine Tr.seq (Tr.reg0 (co rfl (ok_box rfl (VL.le (vl rfl) (agg_cellsP _))) (cm rfl (Ch.nil (Fin.go (Tr.seq (Tr.regT (tp rfl (ok_buildSlice (xs := []) (rows := []) rfl rfl Tryz.underlying176 sz5 z5 rfl (by decide) trivial (by decide)) (tp rfl (kfa rfl fo195_1 rfl rfl) (tp rfl (kl1 rfl one176 rfl) (TO.pad ?_)))))))))))
 refine TO.efs 0 rfl rfl (by decide) (ef_append rfl rfl (by decide) rfl Tryz.underlying176 sz5 by5 z5 rfl (by decide) ⟨_, rfl, full_le _ _⟩ (vl rfl) (by simp only [List.length_append, List.length_replicate, List.length_cons, List.length_nil]; unfold maxLen; omega) (by simp only [List.length_append, List.length_replicate, List.length_cons, List.length_nil]; omega) (appR_full (by exact List.Mem.head _) (vl rfl))) (fun v1 => ?_)
 refine tm rfl (TO.nil (Fin.go (Tr.seq (Tr.seq (Tr.reg0 (cm rfl (Ch.nil (Fin.go (Tr.block (Tr.loopD2V1 [(1, _)] ⟨ke rfl, trivial⟩ (fun (k : Nat) (acc : Nat) v => [(4, int ((k : Nat) : Int)), (3, andIs v (bts acc))]) (fun (k : Nat) (acc : Nat) v => Hp M0 w0 noS ([appRes 5 1 v])) (fun (k : Nat) (acc : Nat) => k ≤ m ∧ acc ≤ b + k * B) (fun (k : Nat) (acc : Nat) => m - k) (0) (b) v1 (⟨by omega, by omega⟩) ⟨ke rfl, ⟨_, rfl, own_le (by simp)⟩, trivial⟩ (fun _ _ h => h) ?_))))))))))
 rintro k acc v ⟨hk1, hk2⟩
 have hkB : k * B ≤ 20 * B := Nat.mul_le_mul_right B (by omega)
 refine Tr.seq (Tr.seq (Tr.reg0 (cm rfl (co rfl (kfa rfl fo195_3 rfl rfl) (co rfl (kl1 rfl one193 rfl) (co rfl (ok_len rfl Tryz.underlying193 (vl rfl)) (co rfl (ki rfl rfl rfl rfl) (Ch.nil (Fin.go ?_)))))))))
 refine Tr.cn rfl ?_ ?_ <;> intro h1 q1
 have hkm : k < m := by have := Nrm.nrm h1; rw [hlr] at this; omega
 have ih2 := ih.resolve_left (by omega)
 refine Tr.skip (Fin.go (Tr.seq (Tr.block (Tr.regT (tm rfl (tp rfl (kfa rfl fo195_3 rfl rfl) (tp rfl (kl1 rfl one193 rfl) (tm rfl (tp rfl (ok_indexAddr rfl Tryz.underlying193 sz195 (vl rfl) (vl rfl) (by omega) (rep_at hkm)) (tp rfl (ok_loadA rfl agg195 sz195 (vl rfl) rfl rfl) (tp rfl (ok_call rfl (ih2) ⟨ke rfl, trivial⟩) ?_)))))))))))
 refine TO.ex 22 rfl (fun z22 => TO.fact 22 rfl fun hz22 => ?_)
 refine TO.efs 0 rfl rfl (by decide) (ef_append rfl rfl (by decide) rfl Tryz.underlying176 sz5 by5 z5 rfl (by decide) ⟨_, rfl, andIs_le _ _⟩ (vl rfl) (by simp only [List.length_append, List.length_replicate, List.length_cons, List.length_nil]; unfold maxLen; omega) (by simp only [List.length_append, List.length_replicate, List.length_cons, List.length_nil]; omega) (appR_is (by exact List.Mem.head _) ⟨_, rfl, andIs_is _ _⟩)) (fun v2 => ?_)
 refine tm rfl (TO.nil (Fin.block (Fin.go (wk3 1 3 4 rfl (Tr.reg0 (cm rfl (cad rfl rfl rfl rfl (by omega) (cm rfl (Ch.nil ?_)))))))))
 exact Fin.famD2V1 (k + 1) (acc + z22) v2 (⟨⟨by omega, by rw [Nat.succ_mul]; omega⟩, by omega⟩) ⟨⟨_, rfl, int_succ k⟩, ⟨_, rfl, own_le (by rw [rep_add])⟩, ke rfl, trivial⟩ (fun _ _ h => h)
 have hke : k = m := by have := Nrm.nrm h1; rw [hlr] at this; omega
 have hll := lenC_le acc
 refine Tr.exit (Fin.then_exit (Fin.then_exit (Fin.block_here (Fin.go (Tr.seq (Tr.pad (Tr.regX mixed [none, none, none, none, none, none, none, some (0, 0, true, 31), none, some (31, 0, true, 33), some (33, 0, true, 2)] (by kernel_rfl) (xo rfl (fun _ => kfa rfl fo195_0 rfl rfl) (xo rfl (fun _ => kl1 rfl one3 rfl) (xo rfl (fun _ => ok_conv rfl Tryz.underlying3 Tryz.underlying5 (vl rfl)) (xo rfl (fun _ => ok_buildSlice (xs := [.tmp 26]) (rows := [u8R]) rfl rfl Tryz.underlying176 sz5 z5 rfl (by decide) ⟨⟨(by exact rfl), VL.le (vl rfl) (Pr.le_trans (is_anyK _ _) (one_cellsP _))⟩, trivial⟩ (by decide)) ?_)))))))))))
 refine xm rfl (xo rfl (fun _ => ok_len rfl Tryz.underlying176 ⟨_, rfl, andIs_le _ _⟩) ?_)
 refine xo rfl (fun _ => ok_call rfl (w_rlength (n := acc) (by omega)) ⟨⟨_, rfl, int_eq (by simp)⟩, trivial⟩) ?_
 refine Cx.ef 0 rfl rfl (by decide) (ef_append rfl rfl (by decide) rfl Tryz.underlying176 sz5 by5 z5 rfl (by decide) ⟨_, rfl, full_le _ _⟩ (vl rfl) (by simp only [List.length_append, List.length_replicate, List.length_cons, List.length_nil]; unfold maxLen; omega) (by simp only [List.length_append, List.length_replicate, List.length_cons, List.length_nil]; omega) (appR_full (by exact List.Mem.head _) (vl rfl))) ?_
 refine xm rfl ?_
 refine Cx.ef 0 rfl rfl (by decide) (ef_append rfl rfl (by decide) rfl Tryz.underlying176 sz5 by5 z5 rfl (by decide) (vl rfl) ⟨_, rfl, andIs_le _ _⟩ (by simp only [List.length_append, List.length_replicate, List.length_cons, List.length_nil]; unfold maxLen; omega) (by simp only [List.length_append, List.length_replicate, List.length_cons, List.length_nil]; omega) appR_slot) ?_
 refine Cx.ef 0 rfl rfl (by decide) (ef_move rfl rfl (by decide) rfl (vl rfl)) ?_
 refine Cx.nil ⟨rfl, ?_⟩
 refine FinX.open_ 0 2 rfl rfl (fun v3 => ?_)
 refine FinX.done (AllC.cons (AllC.cons (AllC.map _))) (Fin.go (wk1 2 rfl (Tr.ret (Fin.ret1 rfl (OutW.bse _ _) rfl ?_))))
 · exact bytesE_in (m := 1 + lenC acc + acc) (by have := lenC_le acc; omega) (Pr.le_trans (andIs_le _ _) (Pr.le_of_eq (by rw [show ([u8R] : List (List Pr)) = List.replicate 1 u8R from rfl, rep_add, rep_add])))
set_option maxRecDepth 20000 in
theorem w_rEncode {q : Pr} {D B : Nat} (hf : Fun Tryz.prog 210 [agg (rowQ q)] anyB) (hd : Fun Tryz.prog 211 [agg (rowQ q)] (depthE D)) (hp : Fun Tryz.prog 212 [agg (rowQ q)] (bytesE B)) : Fun Tryz.prog 165 [agg (rowQ q)] (tup [bytesE B, anyK .i64]) := by
 refine Fun.of Tryz.func165 rfl rfl (by exact Nat.le_of_ble_eq_true rfl) fun M0 w0 => ?_
 refine Tr.seq (Tr.reg0 (co rfl (ok_box rfl (VL.le (vl rfl) (agg_cellsP _))) (cm rfl (cm rfl (Ch.nil (Fin.go (Tr.seq (Tr.seq (Tr.regT (tp rfl (ok_loadA rfl agg195 sz195 (vl rfl) rfl rfl) (tp rfl (ok_call rfl (hf) ⟨ke rfl, trivial⟩) ?_)))))))))))
 refine TO.ex 6 rfl (fun z6 => ?_)
 refine tp rfl (ok_not rfl (vl rfl)) (TO.nil (Fin.go ?_))
 refine Tr.cn rfl ?_ ?_ <;> intro h1 q1
 refine Tr.seq (Tr.reg0 (cm rfl (cm rfl (Ch.nil (Fin.go (Tr.ret (Fin.then_ret (Fin.ret2 rfl (OutW.bse _ _) rfl ?_ rfl ?_))))))))
 · exact bytesE_in (m := 0) (by omega) (nil_slice 1)
 · exact is_anyK _ _
 refine Tr.skip (Fin.go (Tr.seq (Tr.seq (Tr.regT (tp rfl (ok_loadA rfl agg195 sz195 (vl rfl) rfl rfl) (tp rfl (ok_call rfl (hd) ⟨ke rfl, trivial⟩) ?_))))))
 refine TO.ex 9 rfl (fun z9 => TO.fact 9 rfl fun hz9 => ?_)
 refine tp rfl (ki rfl rfl rfl rfl) (TO.nil (Fin.go ?_))
 refine Tr.cn rfl ?_ ?_ <;> intro h2 q2
 refine Tr.seq (Tr.reg0 (cm rfl (cm rfl (Ch.nil (Fin.go (Tr.ret (Fin.then_ret (Fin.ret2 rfl (OutW.bse _ _) rfl ?_ rfl ?_))))))))
 · exact bytesE_in (m := 0) (by omega) (nil_slice 1)
 · exact is_anyK _ _
 refine Tr.skip (Fin.go (Tr.seq (Tr.reg0 (co rfl (ok_loadA rfl agg195 sz195 (vl rfl) rfl rfl) (co rfl (ok_call rfl (hp) ⟨ke rfl, trivial⟩) (cm rfl (Ch.nil (Fin.go (Tr.seq (Tr.seq (Tr.regT (tm rfl ?_))))))))))))
 refine TO.ex 13 rfl (fun z13 => TO.fact 13 rfl fun hz13 => ?_)
 refine tp rfl (ok_len rfl Tryz.underlying176 (vl rfl)) (tp rfl (ki rfl rfl rfl rfl) (TO.nil (Fin.go (wk2 4 15 rfl ?_))))
 refine Tr.cn rfl ?_ ?_ <;> intro h3 q3
 refine Tr.seq (Tr.reg0 (cm rfl (cm rfl (Ch.nil (Fin.go (Tr.ret (Fin.then_ret (Fin.ret2 rfl (OutW.bse _ _) rfl ?_ rfl ?_))))))))
 · exact bytesE_in (m := 0) (by omega) (nil_slice 1)
 · exact is_anyK _ _
 refine Tr.skip (Fin.go (Tr.seq (Tr.reg0 (cm rfl (cm rfl (cm rfl (Ch.nil (Fin.go (Tr.ret (Fin.ret2 rfl (OutW.bse _ _) rfl ?_ rfl ?_))))))))))
 · exact Pr.le_refl _
 · exact is_anyK _ _
theorem u8_zero : IntKind.u8.wrap 0 = 0 := rfl
def intMu (x h : Int) : Nat := (2 * x).toNat + (if 128 ≤ h then 1 else 0)
theorem int_step {x h : Int} {t : Nat} (h0 : 0 ≤ x) (hc : x ≠ 0 ∨ 128 ≤ h) (hi : t + intMu x h ≤ 400) : (0 ≤ x / 256 ∧ t + 1 + intMu (x / 256) (IntKind.u8.wrap x) ≤ 400) ∧ intMu (x / 256) (IntKind.u8.wrap x) < intMu x h := by
  have key : intMu (x / 256) (IntKind.u8.wrap x) < intMu x h := by
    unfold intMu
    by_cases hx : x = 0
    · subst hx
      rw [u8_zero, if_neg (by omega), if_pos (by omega)]; decide
    · have : (if 128 ≤ IntKind.u8.wrap x then 1 else 0) ≤ 1 := by split <;> omega
      have : 0 ≤ (if 128 ≤ h then 1 else 0) := by split <;> omega
      omega
  exact ⟨⟨by omega, by omega⟩, key⟩
theorem ok_shr8 {P : Program} {I : Asn} {E : Env} {o : Oper} {t u : TypeId} {x y : Operand} {m : Int} (ho : o.op = .binOp .shr t x y u) (hx : VL E x (int m)) (hy : VL E y (is (.int .u64 8))) (h0 : 0 ≤ m) : OpOK P I o E (int (m / 256)) :=
  OpOK.same fun M w a he _ => by
    have h1 : a.eval x = .int .i64 m := hx.ev he (by simp [ho, Op.operands])
    have h2 : a.eval y = .int .u64 8 := hy.ev he (by simp [ho, Op.operands])
    refine ⟨.int .i64 (m.fdiv 256), ?_, congrArg (Value.int .i64) (Int.fdiv_eq_ediv_of_nonneg m (by omega))⟩
    simp only [execOp, ho, h1, h2]
    simp [eqGuard, binOp, Op.shift, IntKind.bits]
abbrev q0 : Pr := slice 4 []

set_option maxRecDepth 20000 in
theorem w_rInt {n : Int} (hn : 0 ≤ n ∧ n ≤ 40000) : Fun Tryz.prog 215 [int n] (agg (rowQ q0)) := by
 refine Fun.of Tryz.func215 rfl rfl (by exact Nat.le_of_ble_eq_true rfl) fun M0 w0 => ?_
 refine Tr.seq (Tr.regT ?_)
 refine TO.alloc rfl rfl (by decide) rfl z195 zo195 (fun b1 => ?_)
 refine TO.nil (Fin.go (Tr.seq (Tr.reg0 (cm rfl (co rfl (ok_conv rfl Tryz.underlying3 Tryz.underlying5 (vl rfl)) (co rfl (ok_buildSlice (xs := [.tmp 6]) (rows := [[_]]) rfl rfl Tryz.underlying176 sz5 z5 rfl (by decide) ⟨⟨(by exact rfl), (VL.le (vl rfl) (one_cellsP _))⟩, trivial⟩ (by decide)) ?_))))))
 refine cm rfl (Ch.nil (Fin.go (Tr.seq (Tr.seq (Tr.reg0 (cm rfl (co rfl (ok_shr8 rfl (vl rfl) (vl rfl) (by omega)) (cm rfl (Ch.nil (Fin.go (Tr.block ?_)))))))))))
 refine Tr.loopD3V0 [(2, _)] ⟨ke rfl, trivial⟩ (fun (x : Int) (h : Int) (t : List Int) => [(4, int x), (3, slice 1 ((h :: t).map fun n => [is (.int .u8 n)]))]) (fun (x : Int) (h : Int) (t : List Int) => Hp M0 w0 noS ([cellsRes true b1 195 (([.int .i64 0, .slice none 0 0, .bool false, .slice none 0 0] : List Value).map is)])) (fun (x : Int) (h : Int) (t : List Int) => 0 ≤ x ∧ t.length + intMu x h ≤ 400) (fun (x : Int) (h : Int) (t : List Int) => intMu x h) (n / 256) (IntKind.u8.wrap n) ([])  (⟨by omega, by unfold intMu; simp only [List.length_nil]; split <;> omega⟩) ⟨ke rfl, ⟨_, rfl, Pr.le_trans (full_le _ _) (Pr.le_of_eq rfl)⟩, trivial⟩ (fun _ _ h => h) ?_
 rintro x h t  ⟨hx0, hmu⟩
 refine Tr.seq (Tr.seq (Tr.reg0 (cm rfl (co rfl (ki rfl rfl rfl rfl) (cm rfl ?_)))))
 refine Ch.cs 12 rfl ?_ ?_ <;> intro h1 q1
 refine cym h1 rfl (cy h1 rfl (ki rfl rfl rfl rfl) (co rfl (kpt rfl rfl h1 rfl) (cm rfl ?_)))
 refine Ch.cs 16 rfl ?_ ?_ <;> intro h2 q2
 refine cnf h2 rfl (cnf h2 rfl (cnf h2 rfl ?_))
 iterate 4 refine cu rfl ?_
 refine cnf h2 rfl (co rfl (kpt rfl rfl h2 rfl) (cm rfl (cnd rfl rfl (cnd rfl rfl (cnd rfl rfl ?_)))))
 iterate 4 refine cu rfl ?_
 refine cnd rfl rfl (co rfl (kpt rfl rfl rfl rfl) (Ch.nil (Fin.go (wk4 2 3 4 35 rfl (Tr.cond rfl (fun _ => ?_) (fun h => nomatch h))))))
 refine Tr.skip (Fin.go (Tr.seq (Tr.block (Tr.regT (tm rfl (tp rfl (ok_conv rfl Tryz.underlying3 Tryz.underlying5 (vl rfl)) (tp rfl (ok_buildSlice (xs := [.tmp 39]) (rows := [[_]]) rfl rfl Tryz.underlying176 sz5 z5 rfl (by decide) ⟨⟨(by exact rfl), (VL.le (vl rfl) (one_cellsP _))⟩, trivial⟩ (by decide)) ?_)))))))
 refine tm rfl (TO.pad ?_)
 refine TO.efs 0 rfl rfl (by decide) (ef_append rfl rfl (by decide) rfl Tryz.underlying176 sz5 by5 z5 rfl (by decide) ⟨_, rfl, full_le _ _⟩ (vl rfl) (by simp only [List.length_append, List.length_replicate, List.length_map, List.length_cons, List.length_nil]; unfold maxLen; omega) (by simp only [List.length_append, List.length_replicate, List.length_map, List.length_cons, List.length_nil]; omega) (appR_full (by exact List.Mem.head _) (vl rfl))) (fun v1 => ?_)
 refine tm rfl (TO.nil (Fin.block (Fin.go (Tr.reg0 (cm rfl (co rfl (ok_shr8 rfl (vl rfl) (vl rfl) (by omega)) (cm rfl (Ch.nil (Fin.drop 0 (Fin.famD3V0 (x / 256) (IntKind.u8.wrap x) (h :: t)  ((int_step hx0 (by omega) hmu)) ⟨ke rfl, ⟨_, rfl, Pr.le_trans (andIs_le _ _) (Pr.le_of_eq rfl)⟩, ke rfl, trivial⟩ (fun _ _ h => h)))))))))))
 refine cym h2 rfl (cy h2 rfl (ki rfl rfl rfl rfl) (cym h2 rfl ?_))
 refine Ch.cs 19 rfl ?_ ?_ <;> intro h3 q3
 refine cym h3 rfl ?_
 refine cy h3 rfl (ok_indexAddr rfl Tryz.underlying176 sz5 (vl rfl) (vl rfl) (by omega) (row_at (k := 0) rfl)) ?_
 refine cy h3 rfl (kl1 rfl one5 rfl) (cy h3 rfl (ki rfl rfl rfl rfl) (cy h2 rfl (kpt rfl rfl h3 rfl) (co rfl (kpf rfl rfl h2 rfl) (cm rfl ?_))))
 refine Ch.cs 26 rfl ?_ ?_ <;> intro h4 q4
 refine cnf h4 rfl (cnf h4 rfl (cnf h4 rfl ?_))
 iterate 4 refine cu rfl ?_
 refine cnf h4 rfl (co rfl (kpt rfl rfl h4 rfl) (Ch.nil (Fin.go (wk4 2 3 4 35 rfl (Tr.cond rfl (fun _ => ?_) (fun h => nomatch h))))))
 refine Tr.skip (Fin.go (Tr.seq (Tr.block (Tr.regT (tm rfl (tp rfl (ok_conv rfl Tryz.underlying3 Tryz.underlying5 (vl rfl)) (tp rfl (ok_buildSlice (xs := [.tmp 39]) (rows := [[_]]) rfl rfl Tryz.underlying176 sz5 z5 rfl (by decide) ⟨⟨(by exact rfl), (VL.le (vl rfl) (one_cellsP _))⟩, trivial⟩ (by decide)) ?_)))))))
 refine tm rfl (TO.pad ?_)
 refine TO.efs 0 rfl rfl (by decide) (ef_append rfl rfl (by decide) rfl Tryz.underlying176 sz5 by5 z5 rfl (by decide) ⟨_, rfl, full_le _ _⟩ (vl rfl) (by simp only [List.length_append, List.length_replicate, List.length_map, List.length_cons, List.length_nil]; unfold maxLen; omega) (by simp only [List.length_append, List.length_replicate, List.length_map, List.length_cons, List.length_nil]; omega) (appR_full (by exact List.Mem.head _) (vl rfl))) (fun v2 => ?_)
 refine tm rfl (TO.nil (Fin.block (Fin.go (Tr.reg0 (cm rfl (co rfl (ok_shr8 rfl (vl rfl) (vl rfl) (by omega)) (cm rfl (Ch.nil (Fin.drop 0 (Fin.famD3V0 (x / 256) (IntKind.u8.wrap x) (h :: t)  ((int_step hx0 (by omega) hmu)) ⟨ke rfl, ⟨_, rfl, Pr.le_trans (andIs_le _ _) (Pr.le_of_eq rfl)⟩, ke rfl, trivial⟩ (fun _ _ h => h)))))))))))
 refine cym h4 rfl (cy h4 rfl (ki rfl rfl rfl rfl) (cym h4 rfl ?_))
 refine Ch.cs 29 rfl ?_ ?_ <;> intro h5 q5
 refine cym h5 rfl ?_
 refine cy h5 rfl (ok_indexAddr rfl Tryz.underlying176 sz5 (vl rfl) (vl rfl) (by omega) (row_at (k := 0) rfl)) ?_
 refine cy h5 rfl (kl1 rfl one5 rfl) (cy h5 rfl (ki rfl rfl rfl rfl) (cy h4 rfl (kpt rfl rfl h5 rfl) (co rfl (kpf rfl rfl h4 rfl) (Ch.nil (Fin.go (wk4 2 3 4 35 rfl ?_))))))
 refine Tr.cn rfl ?_ ?_ <;> intro h6 q6
 have hc_ := h6
 refine Tr.skip (Fin.go (Tr.seq (Tr.block (Tr.regT (tm rfl (tp rfl (ok_conv rfl Tryz.underlying3 Tryz.underlying5 (vl rfl)) (tp rfl (ok_buildSlice (xs := [.tmp 39]) (rows := [[_]]) rfl rfl Tryz.underlying176 sz5 z5 rfl (by decide) ⟨⟨(by exact rfl), (VL.le (vl rfl) (one_cellsP _))⟩, trivial⟩ (by decide)) ?_)))))))
 refine tm rfl (TO.pad ?_)
 refine TO.efs 0 rfl rfl (by decide) (ef_append rfl rfl (by decide) rfl Tryz.underlying176 sz5 by5 z5 rfl (by decide) ⟨_, rfl, full_le _ _⟩ (vl rfl) (by simp only [List.length_append, List.length_replicate, List.length_map, List.length_cons, List.length_nil]; unfold maxLen; omega) (by simp only [List.length_append, List.length_replicate, List.length_map, List.length_cons, List.length_nil]; omega) (appR_full (by exact List.Mem.head _) (vl rfl))) (fun v3 => ?_)
 refine tm rfl (TO.nil (Fin.block (Fin.go (Tr.reg0 (cm rfl (co rfl (ok_shr8 rfl (vl rfl) (vl rfl) (by omega)) (cm rfl (Ch.nil (Fin.drop 0 (Fin.famD3V0 (x / 256) (IntKind.u8.wrap x) (h :: t)  ((int_step hx0 (by omega) hmu)) ⟨ke rfl, ⟨_, rfl, Pr.le_trans (andIs_le _ _) (Pr.le_of_eq rfl)⟩, ke rfl, trivial⟩ (fun _ _ h => h)))))))))))
 have hc_ := h6
 refine Tr.exit (Fin.then_exit (Fin.then_exit (Fin.block_here (Fin.go (Tr.seq (Tr.regT (tm rfl (tp rfl (ok_build (rows := [(0, [_]), (1, [_])]) rfl bl195 zo195 ⟨⟨rfl, (VL.le (vl rfl) (one_cellsP _))⟩, ⟨⟨rfl, (VL.le (vl rfl) (one_cellsP _))⟩, trivial⟩⟩ rfl) (TO.store_all 0 rfl rfl rfl (vl rfl) (VL.le (vl rfl) (agg_cellsP _)) rfl sz195 rfl rfl (TO.nil (Fin.go (Tr.ret (Fin.retX1 rfl (RVal.cell 0 rfl rfl agg195 sz195 rfl (Pr.le_refl _)) ?_)))))))))))))
 · exact agg_le ⟨is_anyK _ _, bytesE_in (m := (h :: t).length) (by simp only [List.length_cons]; omega) bts_of, ex_in _ (Pr.le_refl _), nil_slice 4, trivial⟩
 iterate 4 refine cnt h5 rfl ?_
 refine cy h4 rfl (kpf rfl rfl h5 rfl) (co rfl (kpf rfl rfl h4 rfl) (Ch.nil (Fin.go (wk4 2 3 4 35 rfl (Tr.cond rfl (fun h => nomatch h) (fun _ => ?_))))))
 refine Tr.exit (Fin.then_exit (Fin.then_exit (Fin.block_here (Fin.go (Tr.seq (Tr.regT (tm rfl (tp rfl (ok_build (rows := [(0, [_]), (1, [_])]) rfl bl195 zo195 ⟨⟨rfl, (VL.le (vl rfl) (one_cellsP _))⟩, ⟨⟨rfl, (VL.le (vl rfl) (one_cellsP _))⟩, trivial⟩⟩ rfl) (TO.store_all 0 rfl rfl rfl (vl rfl) (VL.le (vl rfl) (agg_cellsP _)) rfl sz195 rfl rfl (TO.nil (Fin.go (Tr.ret (Fin.retX1 rfl (RVal.cell 0 rfl rfl agg195 sz195 rfl (Pr.le_refl _)) ?_)))))))))))))
 · exact agg_le ⟨is_anyK _ _, bytesE_in (m := (h :: t).length) (by simp only [List.length_cons]; omega) bts_of, ex_in _ (Pr.le_refl _), nil_slice 4, trivial⟩
 iterate 4 refine cnt h3 rfl ?_
 refine cy h2 rfl (kpf rfl rfl h3 rfl) (co rfl (kpf rfl rfl h2 rfl) (cm rfl (cym rfl rfl (cy rfl rfl (ki rfl rfl rfl rfl) (cym rfl rfl ?_)))))
 refine Ch.cs 29 rfl ?_ ?_ <;> intro h7 q7
 refine cym h7 rfl ?_
 refine cy h7 rfl (ok_indexAddr rfl Tryz.underlying176 sz5 (vl rfl) (vl rfl) (by omega) (row_at (k := 0) rfl)) ?_
 refine cy h7 rfl (kl1 rfl one5 rfl) (cy h7 rfl (ki rfl rfl rfl rfl) (cy rfl rfl (kpt rfl rfl h7 rfl) (co rfl (kpf rfl rfl rfl rfl) (Ch.nil (Fin.go (wk4 2 3 4 35 rfl ?_))))))
 refine Tr.cn rfl ?_ ?_ <;> intro h8 q8
 have hc_ := h8
 refine Tr.skip (Fin.go (Tr.seq (Tr.block (Tr.regT (tm rfl (tp rfl (ok_conv rfl Tryz.underlying3 Tryz.underlying5 (vl rfl)) (tp rfl (ok_buildSlice (xs := [.tmp 39]) (rows := [[_]]) rfl rfl Tryz.underlying176 sz5 z5 rfl (by decide) ⟨⟨(by exact rfl), (VL.le (vl rfl) (one_cellsP _))⟩, trivial⟩ (by decide)) ?_)))))))
 refine tm rfl (TO.pad ?_)
 refine TO.efs 0 rfl rfl (by decide) (ef_append rfl rfl (by decide) rfl Tryz.underlying176 sz5 by5 z5 rfl (by decide) ⟨_, rfl, full_le _ _⟩ (vl rfl) (by simp only [List.length_append, List.length_replicate, List.length_map, List.length_cons, List.length_nil]; unfold maxLen; omega) (by simp only [List.length_append, List.length_replicate, List.length_map, List.length_cons, List.length_nil]; omega) (appR_full (by exact List.Mem.head _) (vl rfl))) (fun v4 => ?_)
 refine tm rfl (TO.nil (Fin.block (Fin.go (Tr.reg0 (cm rfl (co rfl (ok_shr8 rfl (vl rfl) (vl rfl) (by omega)) (cm rfl (Ch.nil (Fin.drop 0 (Fin.famD3V0 (x / 256) (IntKind.u8.wrap x) (h :: t)  ((int_step hx0 (by omega) hmu)) ⟨ke rfl, ⟨_, rfl, Pr.le_trans (andIs_le _ _) (Pr.le_of_eq rfl)⟩, ke rfl, trivial⟩ (fun _ _ h => h)))))))))))
 have hc_ := h8
 refine Tr.exit (Fin.then_exit (Fin.then_exit (Fin.block_here (Fin.go (Tr.seq (Tr.regT (tm rfl (tp rfl (ok_build (rows := [(0, [_]), (1, [_])]) rfl bl195 zo195 ⟨⟨rfl, (VL.le (vl rfl) (one_cellsP _))⟩, ⟨⟨rfl, (VL.le (vl rfl) (one_cellsP _))⟩, trivial⟩⟩ rfl) (TO.store_all 0 rfl rfl rfl (vl rfl) (VL.le (vl rfl) (agg_cellsP _)) rfl sz195 rfl rfl (TO.nil (Fin.go (Tr.ret (Fin.retX1 rfl (RVal.cell 0 rfl rfl agg195 sz195 rfl (Pr.le_refl _)) ?_)))))))))))))
 · exact agg_le ⟨is_anyK _ _, bytesE_in (m := (h :: t).length) (by simp only [List.length_cons]; omega) bts_of, ex_in _ (Pr.le_refl _), nil_slice 4, trivial⟩
 iterate 4 refine cnt h7 rfl ?_
 refine cy rfl rfl (kpf rfl rfl h7 rfl) (co rfl (kpf rfl rfl rfl rfl) (Ch.nil (Fin.go (wk4 2 3 4 35 rfl (Tr.cond rfl (fun h => nomatch h) (fun _ => ?_))))))
 refine Tr.exit (Fin.then_exit (Fin.then_exit (Fin.block_here (Fin.go (Tr.seq (Tr.regT (tm rfl (tp rfl (ok_build (rows := [(0, [_]), (1, [_])]) rfl bl195 zo195 ⟨⟨rfl, (VL.le (vl rfl) (one_cellsP _))⟩, ⟨⟨rfl, (VL.le (vl rfl) (one_cellsP _))⟩, trivial⟩⟩ rfl) (TO.store_all 0 rfl rfl rfl (vl rfl) (VL.le (vl rfl) (agg_cellsP _)) rfl sz195 rfl rfl (TO.nil (Fin.go (Tr.ret (Fin.retX1 rfl (RVal.cell 0 rfl rfl agg195 sz195 rfl (Pr.le_refl _)) ?_)))))))))))))
 · exact agg_le ⟨is_anyK _ _, bytesE_in (m := (h :: t).length) (by simp only [List.length_cons]; omega) bts_of, ex_in _ (Pr.le_refl _), nil_slice 4, trivial⟩
 refine cnt h1 rfl (cnt h1 rfl (co rfl (kpf rfl rfl h1 rfl) (cm rfl (cym rfl rfl (cy rfl rfl (ki rfl rfl rfl rfl) (cym rfl rfl ?_))))))
 refine Ch.cs 19 rfl ?_ ?_ <;> intro h9 q9
 refine cym h9 rfl ?_
 refine cy h9 rfl (ok_indexAddr rfl Tryz.underlying176 sz5 (vl rfl) (vl rfl) (by omega) (row_at (k := 0) rfl)) ?_
 refine cy h9 rfl (kl1 rfl one5 rfl) (cy h9 rfl (ki rfl rfl rfl rfl) (cy rfl rfl (kpt rfl rfl h9 rfl) (co rfl (kpf rfl rfl rfl rfl) (cm rfl ?_))))
 refine Ch.cs 26 rfl ?_ ?_ <;> intro h10 q10
 refine cnf h10 rfl (cnf h10 rfl (cnf h10 rfl ?_))
 iterate 4 refine cu rfl ?_
 refine cnf h10 rfl (co rfl (kpt rfl rfl h10 rfl) (Ch.nil (Fin.go (wk4 2 3 4 35 rfl (Tr.cond rfl (fun _ => ?_) (fun h => nomatch h))))))
 refine Tr.skip (Fin.go (Tr.seq (Tr.block (Tr.regT (tm rfl (tp rfl (ok_conv rfl Tryz.underlying3 Tryz.underlying5 (vl rfl)) (tp rfl (ok_buildSlice (xs := [.tmp 39]) (rows := [[_]]) rfl rfl Tryz.underlying176 sz5 z5 rfl (by decide) ⟨⟨(by exact rfl), (VL.le (vl rfl) (one_cellsP _))⟩, trivial⟩ (by decide)) ?_)))))))
 refine tm rfl (TO.pad ?_)
 refine TO.efs 0 rfl rfl (by decide) (ef_append rfl rfl (by decide) rfl Tryz.underlying176 sz5 by5 z5 rfl (by decide) ⟨_, rfl, full_le _ _⟩ (vl rfl) (by simp only [List.length_append, List.length_replicate, List.length_map, List.length_cons, List.length_nil]; unfold maxLen; omega) (by simp only [List.length_append, List.length_replicate, List.length_map, List.length_cons, List.length_nil]; omega) (appR_full (by exact List.Mem.head _) (vl rfl))) (fun v5 => ?_)
 refine tm rfl (TO.nil (Fin.block (Fin.go (Tr.reg0 (cm rfl (co rfl (ok_shr8 rfl (vl rfl) (vl rfl) (by omega)) (cm rfl (Ch.nil (Fin.drop 0 (Fin.famD3V0 (x / 256) (IntKind.u8.wrap x) (h :: t)  ((int_step hx0 (by omega) hmu)) ⟨ke rfl, ⟨_, rfl, Pr.le_trans (andIs_le _ _) (Pr.le_of_eq rfl)⟩, ke rfl, trivial⟩ (fun _ _ h => h)))))))))))
 refine cym h10 rfl (cy h10 rfl (ki rfl rfl rfl rfl) (cym h10 rfl ?_))
 refine Ch.cs 29 rfl ?_ ?_ <;> intro h11 q11
 refine cym h11 rfl ?_
 refine cy h11 rfl (ok_indexAddr rfl Tryz.underlying176 sz5 (vl rfl) (vl rfl) (by omega) (row_at (k := 0) rfl)) ?_
 refine cy h11 rfl (kl1 rfl one5 rfl) (cy h11 rfl (ki rfl rfl rfl rfl) (cy h10 rfl (kpt rfl rfl h11 rfl) (co rfl (kpf rfl rfl h10 rfl) (Ch.nil (Fin.go (wk4 2 3 4 35 rfl ?_))))))
 refine Tr.cn rfl ?_ ?_ <;> intro h12 q12
 have hc_ := h12
 refine Tr.skip (Fin.go (Tr.seq (Tr.block (Tr.regT (tm rfl (tp rfl (ok_conv rfl Tryz.underlying3 Tryz.underlying5 (vl rfl)) (tp rfl (ok_buildSlice (xs := [.tmp 39]) (rows := [[_]]) rfl rfl Tryz.underlying176 sz5 z5 rfl (by decide) ⟨⟨(by exact rfl), (VL.le (vl rfl) (one_cellsP _))⟩, trivial⟩ (by decide)) ?_)))))))
 refine tm rfl (TO.pad ?_)
 refine TO.efs 0 rfl rfl (by decide) (ef_append rfl rfl (by decide) rfl Tryz.underlying176 sz5 by5 z5 rfl (by decide) ⟨_, rfl, full_le _ _⟩ (vl rfl) (by simp only [List.length_append, List.length_replicate, List.length_map, List.length_cons, List.length_nil]; unfold maxLen; omega) (by simp only [List.length_append, List.length_replicate, List.length_map, List.length_cons, List.length_nil]; omega) (appR_full (by exact List.Mem.head _) (vl rfl))) (fun v6 => ?_)
 refine tm rfl (TO.nil (Fin.block (Fin.go (Tr.reg0 (cm rfl (co rfl (ok_shr8 rfl (vl rfl) (vl rfl) (by omega)) (cm rfl (Ch.nil (Fin.drop 0 (Fin.famD3V0 (x / 256) (IntKind.u8.wrap x) (h :: t)  ((int_step hx0 (by omega) hmu)) ⟨ke rfl, ⟨_, rfl, Pr.le_trans (andIs_le _ _) (Pr.le_of_eq rfl)⟩, ke rfl, trivial⟩ (fun _ _ h => h)))))))))))
 have hc_ := h12
 refine Tr.exit (Fin.then_exit (Fin.then_exit (Fin.block_here (Fin.go (Tr.seq (Tr.regT (tm rfl (tp rfl (ok_build (rows := [(0, [_]), (1, [_])]) rfl bl195 zo195 ⟨⟨rfl, (VL.le (vl rfl) (one_cellsP _))⟩, ⟨⟨rfl, (VL.le (vl rfl) (one_cellsP _))⟩, trivial⟩⟩ rfl) (TO.store_all 0 rfl rfl rfl (vl rfl) (VL.le (vl rfl) (agg_cellsP _)) rfl sz195 rfl rfl (TO.nil (Fin.go (Tr.ret (Fin.retX1 rfl (RVal.cell 0 rfl rfl agg195 sz195 rfl (Pr.le_refl _)) ?_)))))))))))))
 · exact agg_le ⟨is_anyK _ _, bytesE_in (m := (h :: t).length) (by simp only [List.length_cons]; omega) bts_of, ex_in _ (Pr.le_refl _), nil_slice 4, trivial⟩
 iterate 4 refine cnt h11 rfl ?_
 refine cy h10 rfl (kpf rfl rfl h11 rfl) (co rfl (kpf rfl rfl h10 rfl) (Ch.nil (Fin.go (wk4 2 3 4 35 rfl (Tr.cond rfl (fun h => nomatch h) (fun _ => ?_))))))
 refine Tr.exit (Fin.then_exit (Fin.then_exit (Fin.block_here (Fin.go (Tr.seq (Tr.regT (tm rfl (tp rfl (ok_build (rows := [(0, [_]), (1, [_])]) rfl bl195 zo195 ⟨⟨rfl, (VL.le (vl rfl) (one_cellsP _))⟩, ⟨⟨rfl, (VL.le (vl rfl) (one_cellsP _))⟩, trivial⟩⟩ rfl) (TO.store_all 0 rfl rfl rfl (vl rfl) (VL.le (vl rfl) (agg_cellsP _)) rfl sz195 rfl rfl (TO.nil (Fin.go (Tr.ret (Fin.retX1 rfl (RVal.cell 0 rfl rfl agg195 sz195 rfl (Pr.le_refl _)) ?_)))))))))))))
 · exact agg_le ⟨is_anyK _ _, bytesE_in (m := (h :: t).length) (by simp only [List.length_cons]; omega) bts_of, ex_in _ (Pr.le_refl _), nil_slice 4, trivial⟩
 iterate 4 refine cnt h9 rfl ?_
 refine cy rfl rfl (kpf rfl rfl h9 rfl) (co rfl (kpf rfl rfl rfl rfl) (cm rfl (cym rfl rfl (cy rfl rfl (ki rfl rfl rfl rfl) (cym rfl rfl ?_)))))
 refine Ch.cs 29 rfl ?_ ?_ <;> intro h13 q13
 refine cym h13 rfl ?_
 refine cy h13 rfl (ok_indexAddr rfl Tryz.underlying176 sz5 (vl rfl) (vl rfl) (by omega) (row_at (k := 0) rfl)) ?_
 refine cy h13 rfl (kl1 rfl one5 rfl) (cy h13 rfl (ki rfl rfl rfl rfl) (cy rfl rfl (kpt rfl rfl h13 rfl) (co rfl (kpf rfl rfl rfl rfl) (Ch.nil (Fin.go (wk4 2 3 4 35 rfl ?_))))))
 refine Tr.cn rfl ?_ ?_ <;> intro h14 q14
 have hc_ := h14
 refine Tr.skip (Fin.go (Tr.seq (Tr.block (Tr.regT (tm rfl (tp rfl (ok_conv rfl Tryz.underlying3 Tryz.underlying5 (vl rfl)) (tp rfl (ok_buildSlice (xs := [.tmp 39]) (rows := [[_]]) rfl rfl Tryz.underlying176 sz5 z5 rfl (by decide) ⟨⟨(by exact rfl), (VL.le (vl rfl) (one_cellsP _))⟩, trivial⟩ (by decide)) ?_)))))))
 refine tm rfl (TO.pad ?_)
 refine TO.efs 0 rfl rfl (by decide) (ef_append rfl rfl (by decide) rfl Tryz.underlying176 sz5 by5 z5 rfl (by decide) ⟨_, rfl, full_le _ _⟩ (vl rfl) (by simp only [List.length_append, List.length_replicate, List.length_map, List.length_cons, List.length_nil]; unfold maxLen; omega) (by simp only [List.length_append, List.length_replicate, List.length_map, List.length_cons, List.length_nil]; omega) (appR_full (by exact List.Mem.head _) (vl rfl))) (fun v7 => ?_)
 refine tm rfl (TO.nil (Fin.block (Fin.go (Tr.reg0 (cm rfl (co rfl (ok_shr8 rfl (vl rfl) (vl rfl) (by omega)) (cm rfl (Ch.nil (Fin.drop 0 (Fin.famD3V0 (x / 256) (IntKind.u8.wrap x) (h :: t)  ((int_step hx0 (by omega) hmu)) ⟨ke rfl, ⟨_, rfl, Pr.le_trans (andIs_le _ _) (Pr.le_of_eq rfl)⟩, ke rfl, trivial⟩ (fun _ _ h => h)))))))))))
 have hc_ := h14
 refine Tr.exit (Fin.then_exit (Fin.then_exit (Fin.block_here (Fin.go (Tr.seq (Tr.regT (tm rfl (tp rfl (ok_build (rows := [(0, [_]), (1, [_])]) rfl bl195 zo195 ⟨⟨rfl, (VL.le (vl rfl) (one_cellsP _))⟩, ⟨⟨rfl, (VL.le (vl rfl) (one_cellsP _))⟩, trivial⟩⟩ rfl) (TO.store_all 0 rfl rfl rfl (vl rfl) (VL.le (vl rfl) (agg_cellsP _)) rfl sz195 rfl rfl (TO.nil (Fin.go (Tr.ret (Fin.retX1 rfl (RVal.cell 0 rfl rfl agg195 sz195 rfl (Pr.le_refl _)) ?_)))))))))))))
 · exact agg_le ⟨is_anyK _ _, bytesE_in (m := (h :: t).length) (by simp only [List.length_cons]; omega) bts_of, ex_in _ (Pr.le_refl _), nil_slice 4, trivial⟩
 iterate 4 refine cnt h13 rfl ?_
 refine cy rfl rfl (kpf rfl rfl h13 rfl) (co rfl (kpf rfl rfl rfl rfl) (Ch.nil (Fin.go (wk4 2 3 4 35 rfl (Tr.cond rfl (fun h => nomatch h) (fun _ => ?_))))))
 refine Tr.exit (Fin.then_exit (Fin.then_exit (Fin.block_here (Fin.go (Tr.seq (Tr.regT (tm rfl (tp rfl (ok_build (rows := [(0, [_]), (1, [_])]) rfl bl195 zo195 ⟨⟨rfl, (VL.le (vl rfl) (one_cellsP _))⟩, ⟨⟨rfl, (VL.le (vl rfl) (one_cellsP _))⟩, trivial⟩⟩ rfl) (TO.store_all 0 rfl rfl rfl (vl rfl) (VL.le (vl rfl) (agg_cellsP _)) rfl sz195 rfl rfl (TO.nil (Fin.go (Tr.ret (Fin.retX1 rfl (RVal.cell 0 rfl rfl agg195 sz195 rfl (Pr.le_refl _)) ?_)))))))))))))
 · exact agg_le ⟨is_anyK _ _, bytesE_in (m := (h :: t).length) (by simp only [List.length_cons]; omega) bts_of, ex_in _ (Pr.le_refl _), nil_slice 4, trivial⟩
set_option maxRecDepth 20000 in
theorem w_rText {s : List UInt8} (hs : s.length ≤ 1000) : Fun Tryz.prog 213 [str s] (agg (rowQ q0)) := by
 refine Fun.of Tryz.func213 rfl rfl (by exact Nat.le_of_ble_eq_true rfl) fun M0 w0 => ?_
 refine Tr.seq (Tr.regT ?_)
 refine TO.alloc rfl rfl (by decide) rfl z195 zo195 (fun b1 => ?_)
 refine TO.nil (Fin.go (Tr.seq (Tr.regT (tm rfl ?_))))
 refine tp rfl (ok_bytes rfl Tryz.underlying9 Tryz.underlying176 Tryz.underlying5 (vl rfl) (by unfold maxLen; omega)) ?_
 refine tp rfl (ok_build (rows := [(0, [_]), (1, [_])]) rfl bl195 zo195 ⟨⟨rfl, (VL.le (vl rfl) (one_cellsP _))⟩, ⟨⟨rfl, (VL.le (vl rfl) (one_cellsP _))⟩, trivial⟩⟩ rfl) (TO.store_all 0 rfl rfl rfl (vl rfl) (VL.le (vl rfl) (agg_cellsP _)) rfl sz195 rfl rfl (TO.nil (Fin.go (Tr.ret (Fin.retX1 rfl (RVal.cell 0 rfl rfl agg195 sz195 rfl (Pr.le_refl _)) ?_)))))
 · exact agg_le ⟨is_anyK _ _, bytesE_in (m := s.length) (by omega) (bts_of (f := fun c : UInt8 => ((c.toNat : Nat) : Int))), ex_in _ (Pr.le_refl _), nil_slice 4, trivial⟩
set_option maxRecDepth 20000 in
theorem w_rBool {b : Bool}  : Fun Tryz.prog 217 [bool b] (agg (rowQ q0)) := by
 refine Fun.of Tryz.func217 rfl rfl (by exact Nat.le_of_ble_eq_true rfl) fun M0 w0 => ?_
 refine Tr.seq (Tr.regT ?_)
 refine TO.alloc rfl rfl (by decide) rfl z195 zo195 (fun b1 => ?_)
 refine TO.nil (Fin.go (Tr.seq (Tr.seq (Tr.reg0 (cm rfl (Ch.nil (Fin.go ?_)))))))
 refine Tr.cn rfl ?_ ?_ <;> intro h1 q1
 refine Tr.seq (Tr.regT (tp rfl (ok_buildSlice (xs := [.const (.int .u8 (255))]) (rows := [[_]]) rfl rfl Tryz.underlying176 sz5 z5 rfl (by decide) ⟨⟨(by exact rfl), (VL.le (vl rfl) (one_cellsP _))⟩, trivial⟩ (by decide)) ?_))
 refine tp rfl (ok_build (rows := [(0, [_]), (1, [_])]) rfl bl195 zo195 ⟨⟨rfl, (VL.le (vl rfl) (one_cellsP _))⟩, ⟨⟨rfl, ⟨_, rfl, Pr.le_trans (full_le _ _) (one_cellsP _)⟩⟩, trivial⟩⟩ rfl) (TO.store_all 0 rfl rfl rfl (vl rfl) (VL.le (vl rfl) (agg_cellsP _)) rfl sz195 rfl rfl (TO.nil (Fin.go (Tr.ret (Fin.then_ret (Fin.retX1 rfl (RVal.cell 0 rfl rfl agg195 sz195 rfl (Pr.le_refl _)) ?_))))))
 · exact agg_le ⟨is_anyK _ _, bytesE_in (m := 1) (by omega) (bts_one _), ex_in _ (Pr.le_refl _), nil_slice 4, trivial⟩
 refine Tr.skip (Fin.go (Tr.seq (Tr.regT (tp rfl (ok_buildSlice (xs := [.const (.int .u8 (0))]) (rows := [[_]]) rfl rfl Tryz.underlying176 sz5 z5 rfl (by decide) ⟨⟨(by exact rfl), (VL.le (vl rfl) (one_cellsP _))⟩, trivial⟩ (by decide)) ?_))))
 refine tp rfl (ok_build (rows := [(0, [_]), (1, [_])]) rfl bl195 zo195 ⟨⟨rfl, (VL.le (vl rfl) (one_cellsP _))⟩, ⟨⟨rfl, ⟨_, rfl, Pr.le_trans (full_le _ _) (one_cellsP _)⟩⟩, trivial⟩⟩ rfl) (TO.store_all 0 rfl rfl rfl (vl rfl) (VL.le (vl rfl) (agg_cellsP _)) rfl sz195 rfl rfl (TO.nil (Fin.go (Tr.ret (Fin.retX1 rfl (RVal.cell 0 rfl rfl agg195 sz195 rfl (Pr.le_refl _)) ?_)))))
 · exact agg_le ⟨is_anyK _ _, bytesE_in (m := 1) (by omega) (bts_one _), ex_in _ (Pr.le_refl _), nil_slice 4, trivial⟩
set_option maxRecDepth 20000 in
theorem w_rcopies {m : Nat} {q : Pr} [One q]  (hm : m ≤ 20) (ih : m = 0 ∨ Fun Tryz.prog 249 [q] q) : Fun Tryz.prog 249 [slice 4 (List.replicate m (rowQ q))] (slice 4 (List.replicate m (rowQ q))) := by
 refine Fun.of Tryz.func249 rfl rfl (by exact Nat.le_of_ble_eq_true rfl) fun M0 w0 => ?_
 have hlr : (List.replicate m (rowQ q)).length = m := List.length_replicate
 refine Tr.seq (Tr.reg0 (cm rfl (Ch.nil (Fin.go (Tr.seq (Tr.reg0 (cm rfl (Ch.nil (Fin.go (Tr.seq (Tr.seq (Tr.reg0 (cm rfl ?_)))))))))))))
 refine Ch.nil (Fin.go (Tr.block (Tr.addnil 195 4 (Tr.loopV1 [(0, _)] ⟨ke rfl, trivial⟩ (fun k v => [(4, int ((k : Nat) : Int)), (3, andIs v (slice 4 (List.replicate k (rowQ q))))]) (fun k v => Hp M0 w0 noS ([appRes 195 4 v])) (fun k : Nat => k ≤ ((List.replicate m (rowQ q)).length)) (fun k : Nat => ((List.replicate m (rowQ q)).length) - k) 0 (.slice none 0 0) (Nat.zero_le _) ⟨ke rfl, ⟨_, rfl, own_nil rfl⟩, trivial⟩ (fun _ _ h => h) ?_))))
 rintro k v hle_k
 refine Tr.seq (Tr.seq (Tr.reg0 (cm rfl (cm rfl (co rfl (ok_len rfl Tryz.underlying193 (vl rfl)) (co rfl (ki rfl rfl rfl rfl) (Ch.nil (Fin.go ?_))))))))
 refine Tr.cn rfl ?_ ?_ <;> intro h1 q1
 have hk_k : k < ((List.replicate m (rowQ q)).length) := lt_of_dec h1
 have hkm : k < m := by simpa using hk_k
 have ih2 := ih.resolve_left (by omega)
 refine Tr.skip (Fin.go (Tr.seq (Tr.block (Tr.seq (Tr.regT (tm rfl (tm rfl (tp rfl (ok_indexAddr rfl Tryz.underlying193 sz195 (vl rfl) (vl rfl) (by omega) (rep_at hkm)) (tp rfl (ok_loadA rfl agg195 sz195 (vl rfl) rfl rfl) ?_)))))))))
 refine TO.alloc rfl rfl (by decide) rfl z195 zo195 (fun b1 => ?_)
 refine TO.store_all 0 rfl rfl rfl (vl rfl) (VL.le (vl rfl) (agg_cellsP _)) rfl sz195 rfl rfl (TO.nil (Fin.go (Tr.seq (Tr.regT (tp rfl (ok_buildSlice (xs := []) (rows := []) rfl rfl Tryz.underlying176 sz5 z5 rfl (by decide) trivial (by decide)) (tp rfl (okp_fieldAddr rfl fo195_1 (vl rfl)) (TO.rd 0 rfl rfl rfl (by decide) (rd_load1 rfl one176 (vl rfl) rfl) ?_)))))))
 refine TO.ex 18 rfl (fun z18 => TO.fact 18 rfl fun hz18 => ?_)
 refine TO.pad ?_
 refine TO.efs 0 rfl rfl (by decide) (ef_append rfl rfl (by decide) rfl Tryz.underlying176 sz5 by5 z5 rfl (by decide) ⟨_, rfl, full_le _ _⟩ (vl rfl) (by simp only [List.length_append, List.length_replicate, List.length_cons, List.length_nil]; unfold maxLen; omega) (by simp only [List.length_append, List.length_replicate, List.length_cons, List.length_nil]; omega) (appR_full (by exact List.Mem.head _) (vl rfl))) (fun v1 => ?_)
 refine tp rfl (okp_fieldAddr rfl fo195_1 (vl rfl)) (TO.ef0 1 rfl rfl (ef_store rfl rfl (vl rfl) (VL.le (vl rfl) (one_cellsP _)) sz176 rfl (by exact Nat.le_of_ble_eq_true rfl) rfl) (TO.nil (Fin.go (wk4 0 3 4 5 rfl (Tr.seq (Tr.regT (tp rfl (okp_fieldAddr rfl fo195_3 (vl rfl)) (TO.rd 1 rfl rfl rfl (by decide) (rd_load1 rfl one193 (vl rfl) rfl) (tp rfl (ok_call rfl (ih2) ⟨ke rfl, trivial⟩) (tp rfl (okp_fieldAddr rfl fo195_3 (vl rfl)) (TO.ef0 1 rfl rfl (ef_store rfl rfl (vl rfl) (VL.le (vl rfl) (one_cellsP _)) sz193 rfl (by exact Nat.le_of_ble_eq_true rfl) rfl) (TO.nil (Fin.go (Tr.regT ?_))))))))))))))
 refine tm rfl (TO.rd 1 rfl rfl rfl (by decide) (rd_loadA rfl agg195 sz195 (vl rfl) rfl rfl) (tp rfl (ok_buildSlice (xs := [.tmp 26]) (rows := [rowQ q]) rfl rfl Tryz.underlying193 sz195 z195 rfl (by decide) ⟨⟨(by exact rfl), VL.le (vl rfl) (Pr.le_trans (agg_le (qs := rowQ q) ⟨Pr.le_refl _, bytesE_in (m := z18) (by omega) (Pr.le_trans (andIs_le _ _) (Pr.le_of_eq rfl)), Pr.le_refl _, Pr.le_refl _, trivial⟩) (agg_cellsP _))⟩, trivial⟩ (by decide)) ?_))
 refine TO.efs 2 rfl rfl (by decide) (ef_append rfl rfl (by decide) rfl Tryz.underlying193 sz195 by195 z195 rfl (by decide) ⟨_, rfl, andIs_le _ _⟩ ⟨_, rfl, full_le _ _⟩ (by simp only [List.length_append, List.length_replicate, List.length_cons, List.length_nil]; unfold maxLen; omega) (by simp only [List.length_append, List.length_replicate, List.length_cons, List.length_nil]; omega) (appR_is (by exact List.Mem.head _) ⟨_, rfl, andIs_is _ _⟩)) (fun v2 => ?_)
 refine tm rfl (TO.nil (Fin.block (Fin.go (Tr.drop 1 (Tr.reg0 (cm rfl (cad rfl rfl rfl rfl (by omega) (cm rfl (Ch.nil (Fin.drop 0 (Fin.famV1 (k + 1) v2 (⟨hk_k, by omega⟩) ⟨⟨_, rfl, int_succ k⟩, ⟨_, rfl, own_le (by rw [rep_one])⟩, ke rfl, trivial⟩ (fun _ _ h => h))))))))))))
 have he_k : k = ((List.replicate m (rowQ q)).length) := by have := ge_of_dec h1; omega
 refine Tr.exit (Fin.then_exit (Fin.then_exit (Fin.block_here (Fin.go (Tr.seq (Tr.reg0 (cm rfl (cm rfl (Ch.nil (Fin.go (Tr.ret (Fin.ret1 rfl (OutW.bse _ _) rfl ?_))))))))))))
 · exact Pr.le_trans (andIs_le _ _) (Pr.le_of_eq (by rw [he_k, hlr]))
set_option maxRecDepth 20000 in
theorem w_rList {m : Nat} {q : Pr}  (hm : m ≤ 20) (hc : Fun Tryz.prog 249 [slice 4 (List.replicate m (rowQ q))] (slice 4 (List.replicate m (rowQ q)))) : Fun Tryz.prog 214 [slice 4 (List.replicate m (rowQ q))] (agg (rowQ (elemsE (rowQ q)))) := by
 refine Fun.of Tryz.func214 rfl rfl (by exact Nat.le_of_ble_eq_true rfl) fun M0 w0 => ?_
 refine Tr.seq (Tr.regT ?_)
 refine TO.alloc rfl rfl (by decide) rfl z195 zo195 (fun b1 => ?_)
 refine TO.nil (Fin.go (Tr.seq (Tr.regT (tm rfl (tp rfl (ok_call rfl (hc) ⟨ke rfl, trivial⟩) (tp rfl (ok_build (rows := [(0, [_]), (2, [_]), (3, [_])]) rfl bl195 zo195 ⟨⟨rfl, (VL.le (vl rfl) (one_cellsP _))⟩, ⟨⟨rfl, (VL.le (vl rfl) (one_cellsP _))⟩, ⟨⟨rfl, (VL.le (vl rfl) (one_cellsP _))⟩, trivial⟩⟩⟩ rfl) (TO.store_all 0 rfl rfl rfl (vl rfl) (VL.le (vl rfl) (agg_cellsP _)) rfl sz195 rfl rfl (TO.nil (Fin.go (Tr.ret (Fin.retX1 rfl (RVal.cell 0 rfl rfl agg195 sz195 rfl (Pr.le_refl _)) ?_)))))))))))
 · exact agg_le ⟨is_anyK _ _, bytesE_in (m := 0) (by omega) (nil_slice 1), ex_in _ (Pr.le_refl _), ex_in m (fact_in hm (Pr.le_refl _)), trivial⟩
end Go.Proofs.YtflodcidhlmaaaaGreat
