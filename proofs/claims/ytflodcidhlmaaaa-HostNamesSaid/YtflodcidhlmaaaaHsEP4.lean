/-
  The law of what a host may become.
-/
import Derived.Test.YtflodcidhlmaaaaRows
import Derived.Test.YtflodcidhlmaaaaHsEP3
set_option linter.all false
set_option maxRecDepth 40000
set_option maxHeartbeats 16000000
namespace Go.Proofs.Ytflodcidhlmaaaa
open Go Go.RowKit Cp

abbrev leafC (name : List UInt8) (a b id to key s : Int) : Crt := ⟨id, [114, 111, 111, 116], name, a, b, id, 3, 0, 0, to, false, 0, [name], key, s⟩
abbrev leafI (name : List UInt8) (a b id to key s : Int) : Idn := ⟨a, b, id, [leafC name a b id to key s]⟩
abbrev leafE (name : List UInt8) (a b id to key : Int) : Pr := Cp.ex fun s : Int => fact (0 ≤ s ∧ s < 4294967296) (agg (rowId (leafI name a b id to key s)))
abbrev anyS : Pr := Cp.ex fun l : List UInt8 => str l
abbrev lnkR : List Pr := [anyK .i64, anyK .i64, anyK .i64]
abbrev itemR : List Pr := [anyS, anyK .i64, anyK .i64, (Cp.ex fun m : Nat => slice 3 (List.replicate m lnkR)), anyK .i64]

theorem w_RSA   : Fun Try.prog 17 [] (agg [int 5, int 2048]) := by
 refine fo Try.func17 rfl ⟨rfl, rfl⟩ fun M0 w0 => (Tr.seq (Tr.regT ?_))
 refine TO.alloc rfl rfl (by decide) rfl z51 zo51 (fun b1 => ?_)
 refine ap ?_
 refine ap ?_
 refine Tr.ret (Fin.retX1 rfl (RVal.cell 0 rfl rfl agg51 sz51 rfl (Pr.le_refl _)) ?_)
 · exact Pr.le_refl _
theorem w_Leaf {name : List UInt8} {a b id to key : Int} (hv : validB (leafC name a b id to 0 0) = true) (ht : (leafC name a b id to 0 0).tiny) (hk : 0 ≤ key ∧ key ≤ 2147483648) : Fun Try.prog 25 [str name, agg [int a, int b], int id, int key, int to] (leafE name a b id to key) := by
 refine fo Try.func25 rfl ⟨rfl, rfl⟩ fun M0 w0 => (Tr.seq (Tr.regT (tp rfl (ok_box rfl (VL.le (vl rfl) (agg_cellsP _))) ?_)))
 refine TO.alloc rfl rfl (by decide) rfl z55 zo55 (fun b1 => ?_)
 refine ap ?_
 refine ap ?_
 refine tp rfl (ok_build (rows := [(0, [_]), (1, [_]), (2, [_]), (3, _), (4, [_]), (5, _), (7, [_]), (10, [_])]) rfl bl91 zo91 ⟨⟨rfl, (VL.le (vl rfl) (one_cellsP _))⟩, ⟨⟨rfl, (VL.le (vl rfl) (one_cellsP _))⟩, ⟨⟨rfl, (VL.le (vl rfl) (one_cellsP _))⟩, ⟨⟨rfl, (VL.le (vl rfl) (agg_cellsP _))⟩, ⟨⟨rfl, (VL.le (vl rfl) (one_cellsP _))⟩, ⟨⟨rfl, (VL.le (vl rfl) (agg_cellsP _))⟩, ⟨⟨rfl, (VL.le (vl rfl) (one_cellsP _))⟩, ⟨⟨rfl, ⟨_, rfl, Pr.le_trans (full_le _ _) (one_cellsP _)⟩⟩, trivial⟩⟩⟩⟩⟩⟩⟩⟩ rfl) (TO.re 20 (agg (rowCr (leafC name a b id to 0 0))) rfl (Pr.le_of_eq rfl) ?_)
 refine TO.alloc rfl rfl (by decide) rfl z91 zo91 (fun b2 => ?_)
 refine ap ?_
 refine wk5 2 3 6 10 11 rfl ?_
 refine ap ?_
 refine tp rfl (kc2 (w_R3Sign (c := leafC name a b id to 0 0) hv ht hk) rfl rfl rfl) ?_
 refine TO.ex 24 rfl (fun z24 => TO.fact 24 rfl fun hz24 => ?_)
 refine ap ?_
 refine ap ?_
 refine tp rfl (ok_build (rows := [(0, _), (1, [_]), (2, [_])]) rfl bl55 zo55 ⟨⟨rfl, (VL.le (vl rfl) (agg_cellsP _))⟩, ⟨⟨rfl, (VL.le (vl rfl) (one_cellsP _))⟩, ⟨⟨rfl, ⟨_, rfl, Pr.le_trans (full_le _ _) (one_cellsP _)⟩⟩, trivial⟩⟩⟩ rfl) ?_
 refine ap ?_
 refine Tr.drop 0 (wk1 10 rfl (Tr.ret (Fin.retX1 rfl (RVal.cell 0 rfl rfl agg55 sz55 rfl (Pr.le_refl _)) ?_)))
 · exact ex_in z24 (fact_in hz24 (Pr.le_refl _))
/-- Some text of a list. -/
def wordOf (s : DS) (l : List (List UInt8)) : List UInt8 := (l[(s.val l.length).toNat]?).getD []

theorem w_DWordE {b : Nat} {s : DS} {l : List (List UInt8)} (hl : l ≠ []) (hl2 : l.length ≤ 1000000000) : FunM Try.prog 27 [ptr b 0, txts l] (str (wordOf s l)) (diceS b s) (fun _ => diceS b s.adv) := by
 refine FunM.of Try.func27 rfl rfl (by exact Nat.le_of_ble_eq_true rfl) fun M0 w0 S rs M1 w1 => ?_
 have hl0 : 1 ≤ (l.length : Int) := by have := List.length_pos_iff.2 hl; omega
 have hv := s.val_in hl0
 obtain ⟨x, hx⟩ := at_ (l := l) (k := (s.val l.length).toNat) (by omega)
 refine ac ?_
 refine ap ?_
 refine TO.efc 0 rfl rfl (by decide) (ef_callc rfl rfl (by decide) rfl (w_DNext (by omega) (by omega)) ⟨ke rfl, ke rfl, trivial⟩) (tp rfl (ok_indexAddr rfl Try.underlying62 sz9 (vl rfl) (vl rfl) (by omega) (row_atI hx)) ?_)
 refine ap ?_
 refine Tr.ret (Fin.retY1 [] rfl (RVal.tmp rfl (Pr.le_refl _)) ?_ (fun _ _ _ _ => rfl))
 · refine Pr.le_of_eq ?_; unfold wordOf; rw [hx]; rfl
end Go.Proofs.Ytflodcidhlmaaaa
namespace Go.Proofs.Ytflodcidhlmaaaa
open Go Go.RowKit Cp

abbrev usR : List Pr := [anyK .i64, anyK .i64]
theorem rep_atI {r : List Pr} {m : Nat} {i : Int} (h : 0 ≤ i ∧ i < (m : Nat)) : (List.replicate m r)[i.toNat]? = some r := by rw [List.getElem?_replicate, if_pos (by omega)]

theorem w_Item {b : Nat} {s : DS} {name : List UInt8}  : FunM Try.prog 26 [ptr b 0, str name] (agg itemR) (diceS b s) (fun _ => diceEx 75 b) := by
 refine FunM.of Try.func26 rfl rfl (by exact Nat.le_of_ble_eq_true rfl) fun M0 w0 S rs M1 w1 => ?_
 have hv3 := s.adv.adv.adv.val_in (n := 3) (by omega)
 refine Tr.seq (Tr.regT ?_)
 refine TO.alloc rfl rfl (by decide) rfl z71 zo71 (fun b1 => ?_)
 refine TO.nil (Fin.go (Tr.seq (Tr.regT (tm rfl (tm rfl (TO.efc 1 rfl rfl (by decide) (ef_callc rfl rfl (by decide) rfl (w_DNext (by omega) (by omega)) ⟨ke rfl, ke rfl, trivial⟩) (tp rfl (ki rfl rfl rfl rfl) (tm rfl (TO.efc 1 rfl rfl (by decide) (ef_callc rfl rfl (by decide) rfl (w_DNext (by omega) (by omega)) ⟨ke rfl, ke rfl, trivial⟩) (tp rfl (ki rfl rfl rfl rfl) (tp rfl (ok_build (rows := [(0, [_]), (1, [_]), (2, [_])]) rfl bl71 zo71 ⟨⟨rfl, (VL.le (vl rfl) (one_cellsP _))⟩, ⟨⟨rfl, (VL.le (vl rfl) (one_cellsP _))⟩, ⟨⟨rfl, (VL.le (vl rfl) (one_cellsP _))⟩, trivial⟩⟩⟩ rfl) ?_)))))))))))
 refine TO.alloc rfl rfl (by decide) rfl z71 zo71 (fun b2 => ?_)
 refine TO.store_all 0 rfl rfl rfl (vl rfl) (VL.le (vl rfl) (agg_cellsP _)) rfl sz71 rfl rfl (TO.nil (Fin.go (Tr.seq (Tr.regT (tm rfl (TO.efc 2 rfl rfl (by decide) (ef_callc rfl rfl (by decide) rfl (w_DNext (by omega) (by omega)) ⟨ke rfl, ke rfl, trivial⟩) (tm rfl (TO.nil (Fin.go (wk4 0 4 5 6 rfl (Tr.seq (Tr.seq (Tr.regT ?_)))))))))))))
 refine tm rfl (TO.efc 2 rfl rfl (by decide) (ef_callc rfl rfl (by decide) rfl (w_DNext (by omega) (by omega)) ⟨ke rfl, ke rfl, trivial⟩) ?_)
 refine tp rfl (ok_add rfl (vl rfl) (vl rfl) ?hin) ?_; case hin => unfold InI; omega
 refine tm rfl (TO.nil (Fin.go (Tr.block (Tr.reC 0 [anyS, anyK .i64, anyK .i64, andIs (.slice none 0 0) (slice 3 (List.replicate 0 lnkR)), is (.int .i64 0)] rfl ⟨ex_in _ (Pr.le_refl _), is_anyK _ _, is_anyK _ _, own_nil rfl, Pr.le_refl _, trivial⟩ (Tr.addnil 96 3 (Tr.loopD3V1 [(0, _), (4, _), (5, _)] ⟨ke rfl, ke rfl, ke rfl, trivial⟩ (fun (k : Int) (m : Nat) (s2 : DS) v => [(7, int k), (6, anyK .i64)]) (fun (k : Int) (m : Nat) (s2 : DS) v => Hp M0 w0 S (appRes 96 3 v :: cellsRes true b2 71 [anyS, anyK .i64, anyK .i64, andIs v (slice 3 (List.replicate m lnkR)), is (.int .i64 0)] :: cellsRes true b1 71 (([.string (ByteArray.mk #[]), .int .i64 0, .int .i64 0, .slice none 0 0, .int .i64 0] : List Value).map is) :: diceS b s2 :: extRes M1 w1 :: rs)) (fun (k : Int) (m : Nat) (s2 : DS) => 0 ≤ k ∧ k + m ≤ 3 ∧ 1 ≤ k + m) (fun (k : Int) (m : Nat) (s2 : DS) => k.toNat) (_) (0) (_) (.slice none 0 0) (⟨by omega, by omega, by omega⟩) ⟨ke rfl, ⟨_, rfl, is_anyK _ _⟩, trivial⟩ (fun _ _ h => h) ?_))))))
 rintro k m s2 v ⟨hk0, hk1, hk2⟩
 refine Tr.seq (Tr.seq (Tr.reg0 (cm rfl (co rfl (ki rfl rfl rfl rfl) (Ch.nil (Fin.go ?_))))))
 refine Tr.cn rfl ?_ ?_ <;> intro h1 q1
 have hk3 : 0 < k := of_decide_eq_true h1
 have hv6 := s2.val_in (n := 6) (by omega)
 refine Tr.skip (Fin.go (Tr.seq (Tr.block (Tr.seq (Tr.regT (tp rfl (ok_build (rows := [(0, [_])]) rfl bl51 zo51 ⟨⟨rfl, (VL.le (vl rfl) (one_cellsP _))⟩, trivial⟩ rfl) (tp rfl (ok_build (rows := [(0, [_])]) rfl bl51 zo51 ⟨⟨rfl, (VL.le (vl rfl) (one_cellsP _))⟩, trivial⟩ rfl) (tp rfl (ok_build (rows := [(0, [_]), (1, [_])]) rfl bl51 zo51 ⟨⟨rfl, (VL.le (vl rfl) (one_cellsP _))⟩, ⟨⟨rfl, (VL.le (vl rfl) (one_cellsP _))⟩, trivial⟩⟩ rfl) (tp rfl (ok_build (rows := [(0, [_]), (1, [_])]) rfl bl51 zo51 ⟨⟨rfl, (VL.le (vl rfl) (one_cellsP _))⟩, ⟨⟨rfl, (VL.le (vl rfl) (one_cellsP _))⟩, trivial⟩⟩ rfl) (tp rfl (ok_build (rows := [(0, [_])]) rfl bl51 zo51 ⟨⟨rfl, (VL.le (vl rfl) (one_cellsP _))⟩, trivial⟩ rfl) (tp rfl (ok_build (rows := [(0, [_]), (1, [_])]) rfl bl51 zo51 ⟨⟨rfl, (VL.le (vl rfl) (one_cellsP _))⟩, ⟨⟨rfl, (VL.le (vl rfl) (one_cellsP _))⟩, trivial⟩⟩ rfl) (tp rfl (ok_buildSlice (xs := [.tmp 26, .tmp 27, .tmp 28, .tmp 29, .tmp 30, .tmp 31]) (rows := [usR, usR, usR, usR, usR, usR]) rfl rfl Try.underlying94 sz51 z51 rfl (by decide) ⟨⟨(by exact rfl), VL.le (vl rfl) (Pr.le_trans (agg_le (qs := usR) ⟨is_anyK _ _, is_anyK _ _, trivial⟩) (agg_cellsP _))⟩, ⟨⟨(by exact rfl), VL.le (vl rfl) (Pr.le_trans (agg_le (qs := usR) ⟨is_anyK _ _, is_anyK _ _, trivial⟩) (agg_cellsP _))⟩, ⟨⟨(by exact rfl), VL.le (vl rfl) (Pr.le_trans (agg_le (qs := usR) ⟨is_anyK _ _, is_anyK _ _, trivial⟩) (agg_cellsP _))⟩, ⟨⟨(by exact rfl), VL.le (vl rfl) (Pr.le_trans (agg_le (qs := usR) ⟨is_anyK _ _, is_anyK _ _, trivial⟩) (agg_cellsP _))⟩, ⟨⟨(by exact rfl), VL.le (vl rfl) (Pr.le_trans (agg_le (qs := usR) ⟨is_anyK _ _, is_anyK _ _, trivial⟩) (agg_cellsP _))⟩, ⟨⟨(by exact rfl), VL.le (vl rfl) (Pr.le_trans (agg_le (qs := usR) ⟨is_anyK _ _, is_anyK _ _, trivial⟩) (agg_cellsP _))⟩, trivial⟩⟩⟩⟩⟩⟩ (by decide)) ?_))))))))))))
 refine tm rfl (TO.efc 3 rfl rfl (by decide) (ef_callc rfl rfl (by decide) rfl (w_DNext (by omega) (by omega)) ⟨ke rfl, ke rfl, trivial⟩) ?_)
 refine tp rfl (ok_indexAddr rfl Try.underlying94 sz51 ⟨_, rfl, full_le _ _⟩ (vl rfl) (by omega) (show (List.replicate 6 usR)[_]? = _ from rep_atI hv6)) ?_
 refine tp rfl (ok_loadA rfl agg51 sz51 (vl rfl) rfl rfl) ?_
 refine TO.alloc rfl rfl (by decide) rfl z51 zo51 (fun b3 => ?_)
 refine TO.store_all 0 rfl rfl rfl (vl rfl) (VL.le (vl rfl) (agg_cellsP _)) rfl sz51 rfl rfl (TO.freeze 0 8 rfl rfl (TO.nil (Fin.go (wk6 0 4 5 6 7 8 rfl (Tr.seq (Tr.regT (tp rfl (okp_fieldAddr rfl fo71_3 (vl rfl)) (TO.rd 1 rfl rfl rfl (by decide) (rd_load1 rfl one69 (vl rfl) rfl) (tp rfl (ok_loadA rfl agg51 sz51 (vl rfl) rfl rfl) (tm rfl (tp rfl (ok_build (rows := [(0, _), (1, [_])]) rfl bl96 zo96 ⟨⟨rfl, (VL.le (vl rfl) (agg_cellsP _))⟩, ⟨⟨rfl, (VL.le (vl rfl) (one_cellsP _))⟩, trivial⟩⟩ rfl) (tp rfl (ok_buildSlice (xs := [.tmp 41]) (rows := [lnkR]) rfl rfl Try.underlying69 sz96 z96 rfl (by decide) ⟨⟨(by exact rfl), VL.le (vl rfl) (Pr.le_trans (Pr.le_of_eq (show agg _ = agg lnkR from rfl)) (agg_cellsP _))⟩, trivial⟩ (by decide)) ?_))))))))))))
 refine TO.efs 0 rfl rfl (by decide) (ef_append rfl rfl (by decide) rfl Try.underlying69 sz96 by96 z96 rfl (by decide) ⟨_, rfl, andIs_le _ _⟩ ⟨_, rfl, full_le _ _⟩ (by simp only [List.length_append, List.length_replicate, List.length_cons, List.length_nil]; unfold maxLen; omega) (by simp only [List.length_append, List.length_replicate, List.length_cons, List.length_nil]; omega) (appR_is (by exact List.Mem.head _) ⟨_, rfl, andIs_is _ _⟩)) (fun v1 => ?_)
 refine tp rfl (okp_fieldAddr rfl fo71_3 (vl rfl)) (TO.ef0 1 rfl rfl (ef_store rfl rfl (vl rfl) (VL.le (vl rfl) (one_cellsP _)) sz69 rfl (by exact Nat.le_of_ble_eq_true rfl) rfl) (TO.nil (Fin.go (wk5 0 4 5 6 7 rfl (Tr.regT (tm rfl (tp rfl (ok_addK rfl (vl rfl) (VL.le (vl rfl) (is_anyK _ _))) (tm rfl (tp rfl (ok_buildSlice (xs := [.const (.int .i64 (5)), .const (.int .i64 (30)), .const (.int .i64 (0)), .const (.int .i64 (100))]) (rows := [[_], [_], [_], [_]]) rfl rfl Try.underlying22 sz3 z3 rfl (by decide) ⟨⟨(by exact rfl), (VL.le (vl rfl) (one_cellsP _))⟩, ⟨⟨(by exact rfl), (VL.le (vl rfl) (one_cellsP _))⟩, ⟨⟨(by exact rfl), (VL.le (vl rfl) (one_cellsP _))⟩, ⟨⟨(by exact rfl), (VL.le (vl rfl) (one_cellsP _))⟩, trivial⟩⟩⟩⟩ (by decide)) ?_)))))))))
 refine TO.efc 3 rfl rfl (by decide) (ef_callc rfl rfl (by decide) rfl (w_DOf (l := [5, 30, 0, 100]) (by simp) (by simp)) ⟨ke rfl, ⟨_, rfl, full_le _ _⟩, trivial⟩) ?_
 refine tp rfl (ok_addK rfl (vl rfl) (VL.le (vl rfl) (is_anyK _ _))) (tm rfl (TO.nil (Fin.block (Fin.go (Tr.reg0 (cm rfl (csu rfl rfl rfl rfl (by omega) (cm rfl (Ch.nil (Fin.reC 1 [anyS, anyK .i64, anyK .i64, andIs v1 (slice 3 (List.replicate (m + 1) lnkR)), is (.int .i64 0)] rfl ⟨Pr.le_refl _, Pr.le_refl _, Pr.le_refl _, own_le (by rw [rep_one]), Pr.le_refl _, trivial⟩ (Fin.famD3V1 (k - 1) (m + 1) (_) v1 (⟨⟨by omega, by omega, by omega⟩, by omega⟩) ⟨⟨_, rfl, int_eq (by omega)⟩, ke rfl, ke rfl, ke rfl, ke rfl, trivial⟩ (fun _ _ h => h))))))))))))
 have hk3 : ¬ 0 < k := of_decide_eq_false h1
 refine Tr.exit (Fin.then_exit (Fin.then_exit (Fin.block_here (Fin.go (Tr.seq (Tr.regX mixed [none, some (0, 1, false, 0), none, none, none, none, none, some (0, 3, true, 0), none, none, some (0, 1, true, 0)] (by kernel_rfl) (xo rfl (fun _ => okp_fieldAddr rfl fo71_3 (vl rfl)) (xrd 1 rfl rfl (rd_load1 rfl one69 (vl rfl) rfl) ?_))))))))
 refine xo rfl (fun _ => ok_indexAddr rfl Try.underlying69 sz96 ⟨_, rfl, andIs_le _ _⟩ (vl rfl) (by omega) (rep_at (k := 0) (by omega))) ?_
 refine xo rfl (fun _ => kfa rfl fo96_1 rfl rfl) (xo rfl (fun _ => kl1 rfl one3 rfl) (xm rfl (xo rfl (fun _ => ok_buildSlice (xs := [.const (.int .i64 (50)), .const (.int .i64 (300)), .const (.int .i64 (0)), .const (.int .i64 (3000))]) (rows := [[_], [_], [_], [_]]) rfl rfl Try.underlying22 sz3 z3 rfl (by decide) ⟨⟨(by exact rfl), (VL.le (vl rfl) (one_cellsP _))⟩, ⟨⟨(by exact rfl), (VL.le (vl rfl) (one_cellsP _))⟩, ⟨⟨(by exact rfl), (VL.le (vl rfl) (one_cellsP _))⟩, ⟨⟨(by exact rfl), (VL.le (vl rfl) (one_cellsP _))⟩, trivial⟩⟩⟩⟩ (by decide)) ?_)))
 refine Cx.ef 3 rfl rfl (by decide) (ef_callc rfl rfl (by decide) rfl (w_DOf (l := [50, 300, 0, 3000]) (by simp) (by simp)) ⟨ke rfl, ⟨_, rfl, full_le _ _⟩, trivial⟩) ?_
 refine xo rfl (fun _ => ok_addK rfl (vl rfl) (VL.le (vl rfl) (is_anyK _ _))) (xo rfl (fun _ => okp_fieldAddr rfl fo71_4 (vl rfl)) (Cx.ef0 1 rfl rfl (ef_store rfl rfl (vl rfl) (VL.le (vl rfl) (one_cellsP _)) sz3 rfl (by exact Nat.le_of_ble_eq_true rfl) rfl) ?_))
 refine Cx.nil ⟨rfl, ?_⟩
 refine FinX.done (AllC.cons (AllC.cons (AllC.cons (AllC.cons (AllC.cons (AllC.map _)))))) (Fin.go (wk2 4 5 rfl (Tr.seq (Tr.regT (TO.rd 1 rfl rfl rfl (by decide) (rd_loadA rfl agg71 sz71 (vl rfl) rfl rfl) (TO.store_all 2 rfl rfl rfl (vl rfl) (VL.le (vl rfl) (agg_cellsP _)) rfl sz71 rfl rfl (TO.nil (Fin.go (Tr.ret (Fin.closeD 3 _ rfl rfl (Fin.retY1 [_, _, _] rfl (RVal.cell 2 rfl rfl agg71 sz71 rfl (Pr.le_refl _)) ?_ (fun _ _ _ _ => rfl))))))))))))
 · exact agg_le ⟨Pr.le_refl _, Pr.le_refl _, Pr.le_refl _, Pr.le_trans (andIs_le _ _) (ex_in m (Pr.le_refl _)), Pr.le_refl _, trivial⟩
end Go.Proofs.Ytflodcidhlmaaaa
namespace Go.Proofs.Ytflodcidhlmaaaa
open Go Go.RowKit Cp

def nameL : List (List UInt8) := [[97, 112, 112], [100, 98], [119, 101, 98]]
def optS : List (List Int) := [[10, 8, 2], [8, 2], [2, 10, 8, 3]]
def sOpt (i : Int) : List Int := (optS[i.toNat]?).getD []
theorem sopt_at {i : Int} (h : 0 ≤ i ∧ i < 3) : (optS.map fun l => [ints l])[i.toNat]? = some [ints (sOpt i)] := by
  have hl : i.toNat < optS.length := by show i.toNat < 3; omega
  unfold sOpt
  rw [List.getElem?_map, List.getElem?_eq_getElem hl]; rfl
theorem sopt_mem {i : Int} (h : 0 ≤ i ∧ i < 3) : sOpt i ∈ optS := by
  have hl : i.toNat < optS.length := by show i.toNat < 3; omega
  unfold sOpt
  rw [List.getElem?_eq_getElem hl]; exact List.getElem_mem hl
/-- What such an endpoint is. -/
structure SndE (i : Nat) (e : Ept) : Prop where
  name : nameL[i]? = some e.name
  least : e.least = 1
  most : e.most = 3 ∨ e.most = 4
  suites : e.suites ∈ optS ∨ ∃ l ∈ optS, e.suites = 14 :: l
  ids : ∃ s : Int, (0 ≤ s ∧ s < 4294967296) ∧ e.ids = [leafI e.name 5 2048 (100 + (i : Nat)) 901 1 s]
  anchors : e.anchors = [1]
  hashes : e.hashes = [2, 3]
def SndL (es : List Ept) : Prop := ∀ (i : Nat) e, es[i]? = some e → SndE i e
theorem snd_snoc {es : List Ept} {e : Ept} (h : SndL es) (he : SndE es.length e) : SndL (es ++ [e]) := by
  intro i x hx
  rcases Nat.lt_or_ge i es.length with hi | hi
  · rw [List.getElem?_append_left hi] at hx; exact h i x hx
  · rcases Nat.eq_or_lt_of_le hi with hi | hi
    · subst hi; rw [List.getElem?_append_right (Nat.le_refl _), Nat.sub_self] at hx; simp at hx; subst hx; exact he
    · rw [List.getElem?_eq_none (by simp; omega)] at hx; cases hx
theorem leaf_ok {nm : List UInt8} {k : Nat} (h : nameL[k]? = some nm) {s : Int} (hs : 0 ≤ s ∧ s < 4294967296) {key : Int} (hk : 0 ≤ key ∧ key ≤ 2) : validB (leafC nm 5 2048 (100 + (k : Nat)) 901 key s) = true := by
  have hlt : k < 3 := lt_of_at h
  have hn : named nm = true := by
    have hm := List.mem_of_getElem? h
    revert hm; unfold nameL; intro hm; simp at hm
    rcases hm with rfl | rfl | rfl <;> decide
  refine of_vf ⟨?_, ?_, by show named [114, 111, 111, 116] = true; decide, hn, ?_, by show ofB 5 2048 2 = true; decide +kernel, ?_, ?_, by show ofB 3 0 1 = true; decide +kernel, hk.1, ?_, hs.1, hs.2, by show (0 : Int) ≤ 0; omega, by show (0 : Int) ≤ 901; omega, by show (901 : Int) ≤ 40000; omega, by show (0 : Int) ≤ 0; omega, by show (0 : Int) ≤ 8; omega, .inr rfl⟩
  · show 0 ≤ (100 : Int) + (k : Nat); omega
  · show (100 : Int) + (k : Nat) ≤ _; omega
  · show namesB [nm] = true
    unfold namesB; rw [Bool.and_eq_true]; refine ⟨allI_iff.2 fun j hj => ?_, by simp⟩
    have : j = 0 := by simp at hj; omega
    subst this; unfold nameAt; simp [hn]
  · show 0 ≤ (100 : Int) + (k : Nat); omega
  · show (100 : Int) + (k : Nat) ≤ _; omega
  · show key ≤ _; omega
theorem leaf_tiny {nm : List UInt8} {k : Nat} (h : k < 3) : (leafC nm 5 2048 (100 + (k : Nat)) 901 0 0).tiny :=
  ⟨by show (100 : Int) + (k : Nat) ≤ 40000; omega, by show (100 : Int) + (k : Nat) ≤ 40000; omega, ⟨by show (0 : Int) ≤ 5; omega, by show (5 : Int) ≤ 40000; omega⟩, ⟨by show (0 : Int) ≤ 2048; omega, by show (2048 : Int) ≤ 40000; omega⟩, ⟨by show (0 : Int) ≤ 3; omega, by show (3 : Int) ≤ 40000; omega⟩, ⟨by show (0 : Int) ≤ 0; omega, by show (0 : Int) ≤ 40000; omega⟩⟩
theorem take_get {β : Type} {l : List β} {n k : Nat} {x : β} (h : (l.take n)[k]? = some x) : l[k]? = some x := by
  have hlt := lt_of_at h
  rw [List.length_take] at hlt
  rw [List.getElem?_take, if_pos (by omega)] at h; exact h
theorem sopt_len (i : Int) : (sOpt i).length ≤ 4 := by
  unfold sOpt
  cases h : optS[i.toNat]? with
  | none => show 0 ≤ 4; omega
  | some l =>
    have hm := List.mem_of_getElem? h
    show l.length ≤ 4
    unfold optS at hm; simp at hm
    rcases hm with rfl | rfl | rfl <;> simp
theorem of_334 (s : DS) : s.of [3, 3, 4] = 3 ∨ s.of [3, 3, 4] = 4 := by have := s.of_mem (l := [3, 3, 4]) (by simp); simp at this; exact this
abbrev edR : List Pr := [anyK .i64, anyK .i64]
abbrev sndP (es : List Ept) : Pr := agg [slice 9 (es.map rowEp), (Cp.ex fun m : Nat => slice 2 (List.replicate m edR)), (Cp.ex fun m : Nat => slice 5 (List.replicate m itemR))]

theorem w_Sound {b : Nat} {s : DS}  : FunM Try.prog 8 [ptr b 0] (Cp.ex fun es : List Ept => fact ((2 ≤ es.length ∧ es.length ≤ 3) ∧ SndL es) (sndP es)) (diceS b s) (fun _ => diceEx 75 b) := by
 refine FunM.of Try.func8 rfl rfl (by exact Nat.le_of_ble_eq_true rfl) fun M0 w0 S rs M1 w1 => ?_
 have hv2 := s.val_in (n := 2) (by omega)
 have hnl : (nameL.take (2 + s.val 2).toNat).length = (2 + s.val 2).toNat := by rw [List.length_take]; show min _ 3 = _; omega
 refine Tr.seq (Tr.regT ?_)
 refine TO.alloc rfl rfl (by decide) rfl z29 zo29 (fun b1 => ?_)
 refine TO.nil (Fin.go (Tr.seq (Tr.regT ?_)))
 refine TO.alloc rfl rfl (by decide) rfl z29 zo29 (fun b2 => ?_)
 refine TO.nil (Fin.go (Tr.seq (Tr.regT (tp rfl (ok_buildSlice (xs := [.const (.string ⟨[97, 112, 112].toArray⟩), .const (.string ⟨[100, 98].toArray⟩), .const (.string ⟨[119, 101, 98].toArray⟩)]) (rows := [[_], [_], [_]]) rfl rfl Try.underlying62 sz9 z9 rfl (by decide) ⟨⟨(by exact rfl), (VL.le (vl rfl) (one_cellsP _))⟩, ⟨⟨(by exact rfl), (VL.le (vl rfl) (one_cellsP _))⟩, ⟨⟨(by exact rfl), (VL.le (vl rfl) (one_cellsP _))⟩, trivial⟩⟩⟩ (by decide)) ?_))))
 refine tm rfl (TO.efc 2 rfl rfl (by decide) (ef_callc rfl rfl (by decide) rfl (w_DNext (by omega) (by omega)) ⟨ke rfl, ke rfl, trivial⟩) ?_)
 refine tp rfl (ok_add rfl (vl rfl) (vl rfl) ?hin) ?_; case hin => unfold InI; omega
 refine tp rfl (ok_sliceTo rfl Try.underlying62 sz9 ⟨_, rfl, full_le _ _⟩ (vl rfl) (by omega) (by simp; omega)) ?_
 refine tm rfl (TO.nil (Fin.go (Tr.seq (Tr.seq (Tr.reg0 (cm rfl (co rfl (ok_len rfl Try.underlying62 (vl rfl)) (cm rfl (Ch.nil (Fin.go (Tr.block ?_)))))))))))
 refine Tr.re 16 rfl (Pr.le_of_eq (by show slice 1 (List.take _ (nameL.map fun t => [str t])) = _; rw [← List.map_take]) : Pr.le _ (txts (nameL.take (2 + s.val 2).toNat))) ?_
 refine Tr.re 17 rfl (int_eq (by simp; rfl) : Pr.le _ (int (((nameL.take (2 + s.val 2).toNat).length : Nat) : Int))) ?_
 refine Tr.reC 0 [andIs (.slice none 0 0) (slice 9 (([] : List Ept).map rowEp)), is (.slice none 0 0), is (.slice none 0 0)] rfl ⟨own_nil rfl, Pr.le_refl _, Pr.le_refl _, trivial⟩ (Tr.addnil 35 9 (Tr.loopD3V1 [(0, _), (2, _), (3, _), (4, _), (16, _), (17, _)] ⟨ke rfl, ke rfl, ke rfl, ke rfl, ke rfl, ke rfl, trivial⟩ (fun (k : Nat) (es : List Ept) (s2 : DS) v => [(18, int ((k : Nat) : Int))]) (fun (k : Nat) (es : List Ept) (s2 : DS) v => Hp M0 w0 S (appRes 35 9 v :: cellsRes true b2 29 [andIs v (slice 9 (es.map rowEp)), is (.slice none 0 0), is (.slice none 0 0)] :: cellsRes true b1 29 (([.slice none 0 0, .slice none 0 0, .slice none 0 0] : List Value).map is) :: diceS b s2 :: extRes M1 w1 :: rs)) (fun (k : Nat) (es : List Ept) (s2 : DS) => k ≤ (2 + s.val 2).toNat ∧ es.length = k ∧ SndL es) (fun (k : Nat) (es : List Ept) (s2 : DS) => (2 + s.val 2).toNat - k) (0) ([]) (_) (.slice none 0 0) (⟨by omega, rfl, fun i e h => by simp at h⟩) ⟨ke rfl, trivial⟩ (fun _ _ h => h) ?_))
 rintro k es s2 v ⟨hk1, hk2, hk3⟩
 refine Tr.seq (Tr.reg0 (co rfl (ki rfl rfl rfl rfl) (Ch.nil (Fin.go (Tr.seq ?_)))))
 refine Tr.cn rfl ?_ ?_ <;> intro h1 q1
 have hkn : k < (2 + s.val 2).toNat := by have := Nrm.nrm h1; rw [hnl] at this; omega
 obtain ⟨nm, hnm⟩ := at_ (l := nameL.take (2 + s.val 2).toNat) (k := k) (by omega)
 have hnm2 : nameL[k]? = some nm := take_get hnm
 have hso := sopt_len (s2.adv.val 3)
 have hk3_ : k < 3 := lt_of_at hnm2
 have hvs := s2.adv.val_in (n := 3) (by omega)
 have hof := of_334 s2
 refine Tr.skip (Fin.go (Tr.seq (Tr.block (Tr.seq (Tr.reg0 (cm rfl (co rfl (ok_indexAddr rfl Try.underlying62 sz9 (vl rfl) (vl rfl) (by omega) (row_at hnm)) (co rfl (kl1 rfl one9 rfl) (cm rfl (cm rfl (Ch.nil (Fin.go (Tr.seq (Tr.pad ?_))))))))))))))
 refine Tr.regX mixed [none, none, none, some (0, 4, true, 0), none, none, none, none, none, some (0, 4, true, 0), none, none, none, some (0, 4, true, 0), none, none, none, some (0, 4, true, 0), none, some (0, 0, true, 7), some (7, 0, true, 7)] (by kernel_rfl) (xm rfl (xm rfl (xo rfl (fun _ => ok_buildSlice (xs := [.const (.int .i64 (3)), .const (.int .i64 (3)), .const (.int .i64 (4))]) (rows := [[_], [_], [_]]) rfl rfl Try.underlying22 sz3 z3 rfl (by decide) ⟨⟨(by exact rfl), (VL.le (vl rfl) (one_cellsP _))⟩, ⟨⟨(by exact rfl), (VL.le (vl rfl) (one_cellsP _))⟩, ⟨⟨(by exact rfl), (VL.le (vl rfl) (one_cellsP _))⟩, trivial⟩⟩⟩ (by decide)) ?_)))
 refine Cx.ef 4 rfl rfl (by decide) (ef_callc rfl rfl (by decide) rfl (w_DOf (l := [3, 3, 4]) (by simp) (by simp)) ⟨ke rfl, ⟨_, rfl, full_le _ _⟩, trivial⟩) ?_
 refine xo rfl (fun _ => ok_buildSlice (xs := [.const (.int .i64 (10)), .const (.int .i64 (8)), .const (.int .i64 (2))]) (rows := [[_], [_], [_]]) rfl rfl Try.underlying22 sz3 z3 rfl (by decide) ⟨⟨(by exact rfl), (VL.le (vl rfl) (one_cellsP _))⟩, ⟨⟨(by exact rfl), (VL.le (vl rfl) (one_cellsP _))⟩, ⟨⟨(by exact rfl), (VL.le (vl rfl) (one_cellsP _))⟩, trivial⟩⟩⟩ (by decide)) ?_
 refine xo rfl (fun _ => ok_buildSlice (xs := [.const (.int .i64 (8)), .const (.int .i64 (2))]) (rows := [[_], [_]]) rfl rfl Try.underlying22 sz3 z3 rfl (by decide) ⟨⟨(by exact rfl), (VL.le (vl rfl) (one_cellsP _))⟩, ⟨⟨(by exact rfl), (VL.le (vl rfl) (one_cellsP _))⟩, trivial⟩⟩ (by decide)) ?_
 refine xo rfl (fun _ => ok_buildSlice (xs := [.const (.int .i64 (2)), .const (.int .i64 (10)), .const (.int .i64 (8)), .const (.int .i64 (3))]) (rows := [[_], [_], [_], [_]]) rfl rfl Try.underlying22 sz3 z3 rfl (by decide) ⟨⟨(by exact rfl), (VL.le (vl rfl) (one_cellsP _))⟩, ⟨⟨(by exact rfl), (VL.le (vl rfl) (one_cellsP _))⟩, ⟨⟨(by exact rfl), (VL.le (vl rfl) (one_cellsP _))⟩, ⟨⟨(by exact rfl), (VL.le (vl rfl) (one_cellsP _))⟩, trivial⟩⟩⟩⟩ (by decide)) ?_
 refine xo rfl (fun _ => ok_buildSlice (xs := [.tmp 27, .tmp 28, .tmp 29]) (rows := [[_], [_], [_]]) rfl rfl Try.underlying65 sz22 z22 rfl (by decide) ⟨⟨(by exact rfl), ⟨_, rfl, Pr.le_trans (full_le _ _) (one_cellsP _)⟩⟩, ⟨⟨(by exact rfl), ⟨_, rfl, Pr.le_trans (full_le _ _) (one_cellsP _)⟩⟩, ⟨⟨(by exact rfl), ⟨_, rfl, Pr.le_trans (full_le _ _) (one_cellsP _)⟩⟩, trivial⟩⟩⟩ (by decide)) ?_
 refine xm rfl (Cx.ef 4 rfl rfl (by decide) (ef_callc rfl rfl (by decide) rfl (w_DNext (by omega) (by omega)) ⟨ke rfl, ke rfl, trivial⟩) ?_)
 refine xo rfl (fun _ => ok_indexAddr rfl Try.underlying65 sz22 ⟨_, rfl, full_le _ _⟩ (vl rfl) (by omega) (show (optS.map fun l => [ints l])[_]? = _ from sopt_at hvs)) ?_
 refine xo rfl (fun _ => kl1 rfl one22 rfl) (xm rfl (Cx.ef 4 rfl rfl (by decide) (ef_callc rfl rfl (by decide) rfl (w_DOne (by omega) (by omega)) ⟨ke rfl, ke rfl, trivial⟩) (xo rfl (fun _ => ok_buildSlice (xs := [.const (.int .i64 (1))]) (rows := [[_]]) rfl rfl Try.underlying22 sz3 z3 rfl (by decide) ⟨⟨(by exact rfl), (VL.le (vl rfl) (one_cellsP _))⟩, trivial⟩ (by decide)) ?_)))
 refine xo rfl (fun _ => ok_buildSlice (xs := [.const (.int .i64 (2)), .const (.int .i64 (3))]) (rows := [[_], [_]]) rfl rfl Try.underlying22 sz3 z3 rfl (by decide) ⟨⟨(by exact rfl), (VL.le (vl rfl) (one_cellsP _))⟩, ⟨⟨(by exact rfl), (VL.le (vl rfl) (one_cellsP _))⟩, trivial⟩⟩ (by decide)) ?_
 refine xm rfl (Cx.ef 4 rfl rfl (by decide) (ef_callc rfl rfl (by decide) rfl (w_DOne (by omega) (by omega)) ⟨ke rfl, ke rfl, trivial⟩) (xo rfl (fun _ => ok_build (rows := [(0, [_]), (1, [_]), (2, [_]), (3, [_]), (4, [_]), (6, [_]), (7, [_]), (8, [_])]) rfl bl35 zo35 ⟨⟨rfl, (VL.le (vl rfl) (one_cellsP _))⟩, ⟨⟨rfl, (VL.le (vl rfl) (one_cellsP _))⟩, ⟨⟨rfl, (VL.le (vl rfl) (one_cellsP _))⟩, ⟨⟨rfl, (VL.le (vl rfl) (one_cellsP _))⟩, ⟨⟨rfl, (VL.le (vl rfl) (one_cellsP _))⟩, ⟨⟨rfl, ⟨_, rfl, Pr.le_trans (full_le _ _) (one_cellsP _)⟩⟩, ⟨⟨rfl, ⟨_, rfl, Pr.le_trans (full_le _ _) (one_cellsP _)⟩⟩, ⟨⟨rfl, (VL.le (vl rfl) (one_cellsP _))⟩, trivial⟩⟩⟩⟩⟩⟩⟩⟩ rfl) (Cx.ef 0 rfl rfl (by decide) (ef_allocX rfl rfl (by decide) rfl z35 zo35) (Cx.ef0 0 rfl rfl (ef_storeX rfl rfl rfl rfl (VL.le (vl rfl) (agg_cellsP _)) sz35 rfl rfl) ?_))))
 refine Cx.nil ⟨rfl, ?_⟩
 refine FinX.open_ 0 7 rfl rfl (fun v1 => ?_)
 refine FinX.done (AllC.cons (AllC.cons (AllC.cons (AllC.cons (AllC.cons (AllC.cons (AllC.map _))))))) (Fin.opn 7 0 _ rfl rfl (fun _ => rfl) (fun b3 => ?_))
 refine Fin.go (wk10 0 2 3 4 5 6 7 16 17 18 rfl (Tr.seq (Tr.seq (Tr.reC 0 [str nm, int 1, int (s2.of [3, 3, 4]), ints (sOpt (s2.adv.val 3)), bool (s2.adv.adv.val 2 == 2 - 1), is (.slice none 0 0), ints [1], ints [2, 3], bool (s2.adv.adv.adv.val 3 == 3 - 1)] rfl ⟨Pr.le_refl _, Pr.le_refl _, Pr.le_refl _, Pr.le_refl _, Pr.le_refl _, Pr.le_refl _, Pr.le_refl _, Pr.le_refl _, Pr.le_refl _, trivial⟩ (Tr.reg0 (co rfl (okp_fieldAddr rfl fo35_2 (vl rfl)) (co rfl (ok_rd 0 rfl (rd_load1 rfl one3 (vl rfl) rfl)) (co rfl (ki rfl rfl rfl rfl) (Ch.nil (Fin.go ?_))))))))))
 refine Tr.cn rfl ?_ ?_ <;> intro h2 q2
 refine Tr.regT (tp rfl (ok_buildSlice (xs := [.const (.int .i64 (14))]) (rows := [[_]]) rfl rfl Try.underlying22 sz3 z3 rfl (by decide) ⟨⟨(by exact rfl), (VL.le (vl rfl) (one_cellsP _))⟩, trivial⟩ (by decide)) ?_)
 refine tp rfl (okp_fieldAddr rfl fo35_3 (vl rfl)) (TO.rd 0 rfl rfl rfl (by decide) (rd_load1 rfl one22 (vl rfl) rfl) (TO.pad ?_))
 refine TO.efs 0 rfl rfl (by decide) (ef_append rfl rfl (by decide) rfl Try.underlying22 sz3 by3 z3 rfl (by decide) ⟨_, rfl, full_le _ _⟩ (vl rfl) (by simp only [List.length_append, List.length_replicate, List.length_cons, List.length_nil, List.length_map]; unfold maxLen; omega) (by simp only [List.length_append, List.length_replicate, List.length_cons, List.length_nil, List.length_map]; omega) (appR_full (by exact List.Mem.head _) (vl rfl))) (fun v2 => ?_)
 refine tp rfl (okp_fieldAddr rfl fo35_3 (vl rfl)) (TO.ef0 1 rfl rfl (ef_store rfl rfl (vl rfl) (VL.le (vl rfl) (one_cellsP _)) sz22 rfl (by exact Nat.le_of_ble_eq_true rfl) rfl) (TO.nil (Fin.go (wk10 0 2 3 4 5 6 7 16 17 18 rfl (Tr.seq (Tr.regT (tm rfl (tp rfl (ok_call rfl (w_RSA) trivial) (tm rfl ?_)))))))))
 refine tp rfl (ok_add rfl (vl rfl) (vl rfl) ?hin) ?_; case hin => unfold InI; omega
 refine tp rfl (ok_call rfl (w_Leaf (name := nm) (a := 5) (b := 2048) (id := 100 + (k : Nat)) (to := 901) (key := 1) (leaf_ok hnm2 (by omega) (by omega)) (leaf_tiny (by omega)) (by omega)) ⟨ke rfl, ke rfl, ke rfl, ke rfl, ke rfl, trivial⟩) ?_
 refine TO.ex 54 rfl (fun z54 => TO.fact 54 rfl fun hz54 => ?_)
 refine tp rfl (ok_buildSlice (xs := [.tmp 54]) (rows := [_]) rfl rfl Try.underlying33 sz55 z55 rfl (by decide) ⟨⟨(by exact rfl), (VL.le (vl rfl) (agg_cellsP _))⟩, trivial⟩ (by decide)) ?_
 refine tp rfl (okp_fieldAddr rfl fo35_5 (vl rfl)) (TO.ef0 1 rfl rfl (ef_store rfl rfl (vl rfl) (VL.le (vl rfl) (one_cellsP _)) sz33 rfl (by exact Nat.le_of_ble_eq_true rfl) rfl) (TO.nil (Fin.go (wk8 0 2 3 4 7 16 17 18 rfl (Tr.regT (tp rfl (okp_fieldAddr rfl fo29_0 (vl rfl)) (TO.rd 3 rfl rfl rfl (by decide) (rd_load1 rfl one25 (vl rfl) rfl) (TO.rd 1 rfl rfl rfl (by decide) (rd_loadA rfl agg35 sz35 (vl rfl) rfl rfl) (tp rfl (ok_buildSlice (xs := [.tmp 59]) (rows := [rowEp (⟨nm, 1, s2.of [3, 3, 4], 14 :: sOpt (s2.adv.val 3), (s2.adv.adv.val 2 == 2 - 1), [leafI nm 5 2048 (100 + (k : Nat)) 901 1 z54], [1], [2, 3], (s2.adv.adv.adv.val 3 == 3 - 1)⟩ : Ept)]) rfl rfl Try.underlying25 sz35 z35 rfl (by decide) ⟨⟨(by exact rfl), VL.le (vl rfl) (Pr.le_trans (agg_le (qs := rowEp (⟨nm, 1, s2.of [3, 3, 4], 14 :: sOpt (s2.adv.val 3), (s2.adv.adv.val 2 == 2 - 1), [leafI nm 5 2048 (100 + (k : Nat)) 901 1 z54], [1], [2, 3], (s2.adv.adv.adv.val 3 == 3 - 1)⟩ : Ept)) ⟨Pr.le_refl _, Pr.le_refl _, Pr.le_refl _, Pr.le_trans (andIs_le _ _) (Pr.le_of_eq rfl), Pr.le_refl _, full_le _ _, Pr.le_refl _, Pr.le_refl _, Pr.le_refl _, trivial⟩) (agg_cellsP _))⟩, trivial⟩ (by decide)) ?_)))))))))
 refine TO.efs 2 rfl rfl (by decide) (ef_append rfl rfl (by decide) rfl Try.underlying25 sz35 by35 z35 rfl (by decide) ⟨_, rfl, andIs_le _ _⟩ ⟨_, rfl, full_le _ _⟩ (by simp only [List.length_append, List.length_replicate, List.length_cons, List.length_nil, List.length_map]; unfold maxLen; omega) (by simp only [List.length_append, List.length_replicate, List.length_cons, List.length_nil, List.length_map]; omega) (appR_is (by exact List.Mem.head _) ⟨_, rfl, andIs_is _ _⟩)) (fun v3 => ?_)
 refine tp rfl (okp_fieldAddr rfl fo29_0 (vl rfl)) (TO.ef0 3 rfl rfl (ef_store rfl rfl (vl rfl) (VL.le (vl rfl) (one_cellsP _)) sz25 rfl (by exact Nat.le_of_ble_eq_true rfl) rfl) (TO.nil (Fin.block (Fin.go (Tr.drop 1 (wk7 0 2 3 4 16 17 18 rfl (Tr.reg0 (cad rfl rfl rfl rfl (by omega) (cm rfl (Ch.nil ?_))))))))))
 refine Fin.reC 2 [andIs v3 (slice 9 ((es ++ [(⟨nm, 1, s2.of [3, 3, 4], 14 :: sOpt (s2.adv.val 3), (s2.adv.adv.val 2 == 2 - 1), [leafI nm 5 2048 (100 + (k : Nat)) 901 1 z54], [1], [2, 3], (s2.adv.adv.adv.val 3 == 3 - 1)⟩ : Ept)]).map rowEp)), is (.slice none 0 0), is (.slice none 0 0)] rfl ⟨own_le (by rw [List.map_append]; rfl), Pr.le_refl _, Pr.le_refl _, trivial⟩ ?_
 refine Fin.drop 0 ?_
 exact Fin.famD3V1 (k + 1) (es ++ [(⟨nm, 1, s2.of [3, 3, 4], 14 :: sOpt (s2.adv.val 3), (s2.adv.adv.val 2 == 2 - 1), [leafI nm 5 2048 (100 + (k : Nat)) 901 1 z54], [1], [2, 3], (s2.adv.adv.adv.val 3 == 3 - 1)⟩ : Ept)]) (_) v3 (⟨⟨by omega, by rw [List.length_append, hk2]; rfl, snd_snoc hk3 ⟨by rw [hk2]; exact hnm2, rfl, hof, .inr ⟨_, sopt_mem hvs, rfl⟩, ⟨z54, hz54, by rw [hk2]⟩, rfl, rfl⟩⟩, by omega⟩) ⟨⟨_, rfl, int_succ k⟩, ke rfl, ke rfl, ke rfl, ke rfl, ke rfl, ke rfl, trivial⟩ (fun _ _ h => h)
 refine Tr.skip (Fin.go (Tr.seq (Tr.regT (tm rfl (tp rfl (ok_call rfl (w_RSA) trivial) (tm rfl ?_))))))
 refine tp rfl (ok_add rfl (vl rfl) (vl rfl) ?hin) ?_; case hin => unfold InI; omega
 refine tp rfl (ok_call rfl (w_Leaf (name := nm) (a := 5) (b := 2048) (id := 100 + (k : Nat)) (to := 901) (key := 1) (leaf_ok hnm2 (by omega) (by omega)) (leaf_tiny (by omega)) (by omega)) ⟨ke rfl, ke rfl, ke rfl, ke rfl, ke rfl, trivial⟩) ?_
 refine TO.ex 54 rfl (fun z54 => TO.fact 54 rfl fun hz54 => ?_)
 refine tp rfl (ok_buildSlice (xs := [.tmp 54]) (rows := [_]) rfl rfl Try.underlying33 sz55 z55 rfl (by decide) ⟨⟨(by exact rfl), (VL.le (vl rfl) (agg_cellsP _))⟩, trivial⟩ (by decide)) ?_
 refine tp rfl (okp_fieldAddr rfl fo35_5 (vl rfl)) (TO.ef0 0 rfl rfl (ef_store rfl rfl (vl rfl) (VL.le (vl rfl) (one_cellsP _)) sz33 rfl (by exact Nat.le_of_ble_eq_true rfl) rfl) (TO.nil (Fin.go (wk8 0 2 3 4 7 16 17 18 rfl (Tr.regT (tp rfl (okp_fieldAddr rfl fo29_0 (vl rfl)) (TO.rd 2 rfl rfl rfl (by decide) (rd_load1 rfl one25 (vl rfl) rfl) (TO.rd 0 rfl rfl rfl (by decide) (rd_loadA rfl agg35 sz35 (vl rfl) rfl rfl) (tp rfl (ok_buildSlice (xs := [.tmp 59]) (rows := [rowEp (⟨nm, 1, s2.of [3, 3, 4], sOpt (s2.adv.val 3), (s2.adv.adv.val 2 == 2 - 1), [leafI nm 5 2048 (100 + (k : Nat)) 901 1 z54], [1], [2, 3], (s2.adv.adv.adv.val 3 == 3 - 1)⟩ : Ept)]) rfl rfl Try.underlying25 sz35 z35 rfl (by decide) ⟨⟨(by exact rfl), VL.le (vl rfl) (Pr.le_trans (agg_le (qs := rowEp (⟨nm, 1, s2.of [3, 3, 4], sOpt (s2.adv.val 3), (s2.adv.adv.val 2 == 2 - 1), [leafI nm 5 2048 (100 + (k : Nat)) 901 1 z54], [1], [2, 3], (s2.adv.adv.adv.val 3 == 3 - 1)⟩ : Ept)) ⟨Pr.le_refl _, Pr.le_refl _, Pr.le_refl _, Pr.le_refl _, Pr.le_refl _, full_le _ _, Pr.le_refl _, Pr.le_refl _, Pr.le_refl _, trivial⟩) (agg_cellsP _))⟩, trivial⟩ (by decide)) ?_)))))))))
 refine TO.efs 1 rfl rfl (by decide) (ef_append rfl rfl (by decide) rfl Try.underlying25 sz35 by35 z35 rfl (by decide) ⟨_, rfl, andIs_le _ _⟩ ⟨_, rfl, full_le _ _⟩ (by simp only [List.length_append, List.length_replicate, List.length_cons, List.length_nil, List.length_map]; unfold maxLen; omega) (by simp only [List.length_append, List.length_replicate, List.length_cons, List.length_nil, List.length_map]; omega) (appR_is (by exact List.Mem.head _) ⟨_, rfl, andIs_is _ _⟩)) (fun v4 => ?_)
 refine tp rfl (okp_fieldAddr rfl fo29_0 (vl rfl)) (TO.ef0 2 rfl rfl (ef_store rfl rfl (vl rfl) (VL.le (vl rfl) (one_cellsP _)) sz25 rfl (by exact Nat.le_of_ble_eq_true rfl) rfl) (TO.nil (Fin.block (Fin.go (Tr.drop 0 (wk7 0 2 3 4 16 17 18 rfl (Tr.reg0 (cad rfl rfl rfl rfl (by omega) (cm rfl (Ch.nil ?_))))))))))
 refine Fin.reC 1 [andIs v4 (slice 9 ((es ++ [(⟨nm, 1, s2.of [3, 3, 4], sOpt (s2.adv.val 3), (s2.adv.adv.val 2 == 2 - 1), [leafI nm 5 2048 (100 + (k : Nat)) 901 1 z54], [1], [2, 3], (s2.adv.adv.adv.val 3 == 3 - 1)⟩ : Ept)]).map rowEp)), is (.slice none 0 0), is (.slice none 0 0)] rfl ⟨own_le (by rw [List.map_append]; rfl), Pr.le_refl _, Pr.le_refl _, trivial⟩ ?_
 exact Fin.famD3V1 (k + 1) (es ++ [(⟨nm, 1, s2.of [3, 3, 4], sOpt (s2.adv.val 3), (s2.adv.adv.val 2 == 2 - 1), [leafI nm 5 2048 (100 + (k : Nat)) 901 1 z54], [1], [2, 3], (s2.adv.adv.adv.val 3 == 3 - 1)⟩ : Ept)]) (_) v4 (⟨⟨by omega, by rw [List.length_append, hk2]; rfl, snd_snoc hk3 ⟨by rw [hk2]; exact hnm2, rfl, hof, .inl (sopt_mem hvs), ⟨z54, hz54, by rw [hk2]⟩, rfl, rfl⟩⟩, by omega⟩) ⟨⟨_, rfl, int_succ k⟩, ke rfl, ke rfl, ke rfl, ke rfl, ke rfl, ke rfl, trivial⟩ (fun _ _ h => h)
 have hke : k = (2 + s.val 2).toNat := by have := Nrm.nrm h1; rw [hnl] at this; omega
 refine Tr.exit (Fin.then_exit (Fin.then_exit (Fin.block_here (Fin.go (Tr.seq (Tr.seq (Tr.reC 1 [slice 9 (es.map rowEp), is (.slice none 0 0), is (.slice none 0 0)] rfl ⟨andIs_le _ _, Pr.le_refl _, Pr.le_refl _, trivial⟩ (Tr.drop 0 (Tr.reg0 (cm rfl (co rfl (ok_len rfl Try.underlying62 (vl rfl)) (cm rfl (Ch.nil (Fin.go ?_))))))))))))))
 refine Tr.block ?_
 refine Tr.re 65 rfl (int_eq (by simp; rfl) : Pr.le _ (int (((nameL.take (2 + s.val 2).toNat).length : Nat) : Int))) ?_
 refine Tr.reC 0 [slice 9 (es.map rowEp), andIs (.slice none 0 0) (slice 2 (List.replicate 0 edR)), is (.slice none 0 0)] rfl ⟨Pr.le_refl _, own_nil rfl, Pr.le_refl _, trivial⟩ (Tr.addnil 68 2 (Tr.loopD3V1 [(0, _), (2, _), (3, _), (4, _), (65, _)] ⟨ke rfl, ke rfl, ke rfl, ke rfl, ke rfl, trivial⟩ (fun (i : Nat) (m : Nat) (s3 : DS) w => [(66, int ((i : Nat) : Int))]) (fun (i : Nat) (m : Nat) (s3 : DS) w => Hp M0 w0 S (appRes 68 2 w :: cellsRes true b2 29 [slice 9 (es.map rowEp), andIs w (slice 2 (List.replicate m edR)), is (.slice none 0 0)] :: cellsRes true b1 29 (([.slice none 0 0, .slice none 0 0, .slice none 0 0] : List Value).map is) :: diceS b s3 :: extRes M1 w1 :: rs)) (fun (i : Nat) (m : Nat) (s3 : DS) => i ≤ (2 + s.val 2).toNat ∧ m ≤ 3) (fun (i : Nat) (m : Nat) (s3 : DS) => (2 + s.val 2).toNat - i) (0) (0) (_) (.slice none 0 0) (⟨by omega, by omega⟩) ⟨ke rfl, trivial⟩ (fun _ _ h => h) ?_))
 rintro i m s3 w ⟨hi1, hi2⟩
 refine Tr.seq (Tr.reg0 (co rfl (ki rfl rfl rfl rfl) (Ch.nil (Fin.go (Tr.seq ?_)))))
 refine Tr.cn rfl ?_ ?_ <;> intro h3 q3
 have hin : i < (2 + s.val 2).toNat := by have := Nrm.nrm h3; rw [hnl] at this; omega
 refine Tr.skip (Fin.go (Tr.seq (Tr.block (Tr.seq (Tr.reg0 (cm rfl (cm rfl (Ch.nil (Fin.go (Tr.seq (Tr.reg0 (cm rfl (co rfl (ok_len rfl Try.underlying62 (vl rfl)) ?_)))))))))))))
 refine cm rfl (Ch.nil (Fin.go (Tr.block ?_)))
 refine Tr.re 70 rfl (int_eq (by simp; rfl) : Pr.le _ (int (((nameL.take (2 + s.val 2).toNat).length : Nat) : Int))) ?_
 refine Tr.loopD3V1 [(0, _), (2, _), (3, _), (4, _), (8, _), (65, _), (66, _), (70, _)] ⟨ke rfl, ke rfl, ke rfl, ke rfl, ke rfl, ke rfl, ke rfl, ke rfl, trivial⟩ (fun (j : Nat) (m3 : Nat) (s4 : DS) u => [(71, int ((j : Nat) : Int))]) (fun (j : Nat) (m3 : Nat) (s4 : DS) u => Hp M0 w0 S (appRes 68 2 u :: cellsRes true b2 29 [slice 9 (es.map rowEp), andIs u (slice 2 (List.replicate m3 edR)), is (.slice none 0 0)] :: cellsRes true b1 29 (([.slice none 0 0, .slice none 0 0, .slice none 0 0] : List Value).map is) :: diceS b s4 :: extRes M1 w1 :: rs)) (fun (j : Nat) (m3 : Nat) (s4 : DS) => j ≤ (2 + s.val 2).toNat ∧ m3 ≤ 3) (fun (j : Nat) (m3 : Nat) (s4 : DS) => (2 + s.val 2).toNat - j) (0) (m) (_) w (⟨by omega, by omega⟩) ⟨ke rfl, trivial⟩ (fun _ _ h => h) ?_
 rintro j m3 s4 u ⟨hj1, hj2⟩
 refine Tr.seq (Tr.reg0 (co rfl (ki rfl rfl rfl rfl) (Ch.nil (Fin.go (Tr.seq ?_)))))
 refine Tr.cn rfl ?_ ?_ <;> intro h4 q4
 have hjn : j < (2 + s.val 2).toNat := by have := Nrm.nrm h4; rw [hnl] at this; omega
 have hlm : (List.replicate m3 edR).length = m3 := List.length_replicate
 refine Tr.skip (Fin.go (Tr.seq (Tr.block (Tr.seq (Tr.reg0 (cm rfl (cm rfl (Ch.nil (Fin.go (Tr.seq (Tr.regT (tm rfl (tm rfl ?_)))))))))))))
 refine tp rfl (ki rfl rfl rfl rfl) (tm rfl ?_)
 refine TO.cases 77 rfl (fun h5 => ?_) (fun h5 => ?_)
 have q5 := Nrm.nrm h5
 refine TO.opG rfl rfl rfl h5 rfl (by decide) (ok_move rfl (vl rfl)) (TO.efcG 3 rfl rfl rfl h5 rfl rfl (by decide) (ef_callc rfl rfl (by decide) rfl (w_DNext (by omega) (by omega)) ⟨ke rfl, ke rfl, trivial⟩) (TO.opG rfl rfl rfl h5 rfl (by decide) (ki rfl rfl rfl rfl) (tp rfl (kpt rfl rfl h5 rfl) (tm rfl ?_))))
 refine TO.cases 82 rfl (fun h6 => ?_) (fun h6 => ?_)
 have q6 := Nrm.nrm h6
 refine TO.opG rfl rfl rfl h6 rfl (by decide) (okp_fieldAddr rfl fo29_1 (vl rfl)) (TO.opG rfl rfl rfl h6 rfl (by decide) (ok_rd 1 rfl (rd_load1 rfl one26 (vl rfl) rfl)) (TO.opG rfl rfl rfl h6 rfl (by decide) (ok_len rfl Try.underlying26 ⟨_, rfl, andIs_le _ _⟩) (TO.opG rfl rfl rfl h6 rfl (by decide) (ki rfl rfl rfl rfl) (tp rfl (kpt rfl rfl h6 rfl) (TO.nil (Fin.go (wk11 0 2 3 4 8 9 65 66 70 71 87 rfl ?_)))))))
 refine Tr.cn rfl ?_ ?_ <;> intro h7 q7
 refine Tr.regT (tp rfl (okp_fieldAddr rfl fo29_1 (vl rfl)) (TO.rd 1 rfl rfl rfl (by decide) (rd_load1 rfl one26 (vl rfl) rfl) (tm rfl (tm rfl (tp rfl (ok_build (rows := [(0, [_]), (1, [_])]) rfl bl68 zo68 ⟨⟨rfl, (VL.le (vl rfl) (one_cellsP _))⟩, ⟨⟨rfl, (VL.le (vl rfl) (one_cellsP _))⟩, trivial⟩⟩ rfl) (tp rfl (ok_buildSlice (xs := [.tmp 92]) (rows := [edR]) rfl rfl Try.underlying26 sz68 z68 rfl (by decide) ⟨⟨(by exact rfl), VL.le (vl rfl) (Pr.le_trans (agg_le (qs := edR) ⟨is_anyK _ _, is_anyK _ _, trivial⟩) (agg_cellsP _))⟩, trivial⟩ (by decide)) ?_))))))
 refine TO.efs 0 rfl rfl (by decide) (ef_append rfl rfl (by decide) rfl Try.underlying26 sz68 by68 z68 rfl (by decide) ⟨_, rfl, andIs_le _ _⟩ ⟨_, rfl, full_le _ _⟩ (by simp only [List.length_append, List.length_replicate, List.length_cons, List.length_nil, List.length_map]; unfold maxLen; omega) (by simp only [List.length_append, List.length_replicate, List.length_cons, List.length_nil, List.length_map]; omega) (appR_is (by exact List.Mem.head _) ⟨_, rfl, andIs_is _ _⟩)) (fun v5 => ?_)
 refine tp rfl (okp_fieldAddr rfl fo29_1 (vl rfl)) (TO.ef0 1 rfl rfl (ef_store rfl rfl (vl rfl) (VL.le (vl rfl) (one_cellsP _)) sz26 rfl (by exact Nat.le_of_ble_eq_true rfl) rfl) (TO.nil (Fin.block (Fin.go (wk9 0 2 3 4 8 65 66 70 71 rfl (Tr.reg0 (cad rfl rfl rfl rfl (by omega) (cm rfl (Ch.nil (Fin.reC 1 [slice 9 (es.map rowEp), andIs v5 (slice 2 (List.replicate (m3 + 1) edR)), is (.slice none 0 0)] rfl ⟨Pr.le_refl _, own_le (by rw [rep_one]), Pr.le_refl _, trivial⟩ (Fin.famD3V1 (j + 1) (m3 + 1) (_) v5 (⟨⟨by omega, by omega⟩, by omega⟩) ⟨⟨_, rfl, int_succ j⟩, ke rfl, ke rfl, ke rfl, ke rfl, ke rfl, ke rfl, ke rfl, ke rfl, trivial⟩ (fun _ _ h => h))))))))))))
 refine Tr.skip (Fin.block (Fin.go (Tr.reg0 (cad rfl rfl rfl rfl (by omega) (cm rfl (Ch.nil (Fin.famD3V1 (j + 1) (m3) (_) u (⟨⟨by omega, by omega⟩, by omega⟩) ⟨⟨_, rfl, int_succ j⟩, ke rfl, ke rfl, ke rfl, ke rfl, ke rfl, ke rfl, ke rfl, ke rfl, trivial⟩ (fun _ _ h => h))))))))
 have q6 := Nrm.nrm h6
 iterate 4 refine TO.noG rfl rfl rfl (ne_true h6) rfl (by decide) ?_
 refine tp rfl (kpf rfl rfl h6 rfl) (TO.nil (Fin.go (wk11 0 2 3 4 8 9 65 66 70 71 87 rfl (Tr.cond rfl (fun h => nomatch h) (fun _ => ?_)))))
 refine Tr.skip (Fin.block (Fin.go (Tr.reg0 (cad rfl rfl rfl rfl (by omega) (cm rfl (Ch.nil (Fin.famD3V1 (j + 1) (m3) (_) u (⟨⟨by omega, by omega⟩, by omega⟩) ⟨⟨_, rfl, int_succ j⟩, ke rfl, ke rfl, ke rfl, ke rfl, ke rfl, ke rfl, ke rfl, ke rfl, trivial⟩ (fun _ _ h => h))))))))
 have q5 := Nrm.nrm h5
 refine TO.noG rfl rfl rfl (ne_true h5) rfl (by decide) (TO.noG rfl rfl rfl (ne_true h5) rfl (by decide) (TO.noG rfl rfl rfl (ne_true h5) rfl (by decide) (tp rfl (kpf rfl rfl h5 rfl) (tm rfl ?_))))
 iterate 4 refine TO.noG rfl rfl rfl (ne_true rfl) rfl (by decide) ?_
 refine tp rfl (kpf rfl rfl rfl rfl) (TO.nil (Fin.go (wk11 0 2 3 4 8 9 65 66 70 71 87 rfl (Tr.cond rfl (fun h => nomatch h) (fun _ => ?_)))))
 refine Tr.skip (Fin.block (Fin.go (Tr.reg0 (cad rfl rfl rfl rfl (by omega) (cm rfl (Ch.nil (Fin.famD3V1 (j + 1) (m3) (_) u (⟨⟨by omega, by omega⟩, by omega⟩) ⟨⟨_, rfl, int_succ j⟩, ke rfl, ke rfl, ke rfl, ke rfl, ke rfl, ke rfl, ke rfl, ke rfl, trivial⟩ (fun _ _ h => h))))))))
 have hje : j = (2 + s.val 2).toNat := by have := Nrm.nrm h4; rw [hnl] at this; omega
 refine Tr.exit (Fin.then_exit (Fin.then_exit (Fin.block_here (Fin.block (Fin.go (Tr.reg0 (cad rfl rfl rfl rfl (by omega) (cm rfl (Ch.nil (Fin.famD3V1 (i + 1) (m3) (_) u (⟨⟨by omega, by omega⟩, by omega⟩) ⟨⟨_, rfl, int_succ i⟩, ke rfl, ke rfl, ke rfl, ke rfl, ke rfl, trivial⟩ (fun _ _ h => h)))))))))))
 have hie : i = (2 + s.val 2).toNat := by have := Nrm.nrm h3; rw [hnl] at this; omega
 refine Tr.exit (Fin.then_exit (Fin.then_exit (Fin.block_here (Fin.go (Tr.seq (Tr.seq (Tr.reg0 (co rfl (okp_fieldAddr rfl fo29_1 (vl rfl)) (co rfl (ok_rd 1 rfl (rd_load1 rfl one26 (vl rfl) rfl)) (co rfl (ok_len rfl Try.underlying26 ⟨_, rfl, andIs_le _ _⟩) (co rfl (ki rfl rfl rfl rfl) (Ch.nil (Fin.go ?_)))))))))))))
 refine Tr.cn rfl ?_ ?_ <;> intro h8 q8
 refine Tr.regT (tp rfl (ok_build (rows := [(0, [_]), (1, [_])]) rfl bl68 zo68 ⟨⟨rfl, (VL.le (vl rfl) (one_cellsP _))⟩, ⟨⟨rfl, (VL.le (vl rfl) (one_cellsP _))⟩, trivial⟩⟩ rfl) (tp rfl (ok_buildSlice (xs := [.tmp 102]) (rows := [edR]) rfl rfl Try.underlying26 sz68 z68 rfl (by decide) ⟨⟨(by exact rfl), VL.le (vl rfl) (Pr.le_trans (agg_le (qs := edR) ⟨is_anyK _ _, is_anyK _ _, trivial⟩) (agg_cellsP _))⟩, trivial⟩ (by decide)) ?_))
 refine tp rfl (okp_fieldAddr rfl fo29_1 (vl rfl)) (TO.ef0 1 rfl rfl (ef_store rfl rfl (vl rfl) (VL.le (vl rfl) (one_cellsP _)) sz26 rfl (by exact Nat.le_of_ble_eq_true rfl) rfl) (TO.nil (Fin.go (wk3 0 2 3 rfl (Tr.seq (Tr.seq ?_))))))
 have hv9 := s3.val_in (n := 3) (by omega)
 refine Tr.reC 1 [slice 9 (es.map rowEp), (Cp.ex fun m : Nat => slice 2 (List.replicate m edR)), is (.slice none 0 0)] rfl ⟨Pr.le_refl _, ex_in 1 (full_le _ _), Pr.le_refl _, trivial⟩ (Tr.drop 0 (Tr.regT (tm rfl (TO.efc 2 rfl rfl (by decide) (ef_callc rfl rfl (by decide) rfl (w_DNext (by omega) (by omega)) ⟨ke rfl, ke rfl, trivial⟩) (tm rfl (TO.nil (Fin.go (Tr.block (Tr.reC 0 [slice 9 (es.map rowEp), (Cp.ex fun m : Nat => slice 2 (List.replicate m edR)), andIs (.slice none 0 0) (slice 5 (List.replicate 0 itemR))] rfl ⟨Pr.le_refl _, Pr.le_refl _, own_nil rfl, trivial⟩ (Tr.addnil 71 5 (Tr.loopD3V1 [(0, _), (2, _), (3, _)] ⟨ke rfl, ke rfl, ke rfl, trivial⟩ (fun (q : Int) (mi : Nat) (s5 : DS) x => [(10, int q)]) (fun (q : Int) (mi : Nat) (s5 : DS) x => Hp M0 w0 S (appRes 71 5 x :: cellsRes true b2 29 [slice 9 (es.map rowEp), (Cp.ex fun m : Nat => slice 2 (List.replicate m edR)), andIs x (slice 5 (List.replicate mi itemR))] :: cellsRes true b1 29 (([.slice none 0 0, .slice none 0 0, .slice none 0 0] : List Value).map is) :: diceS b s5 :: extRes M1 w1 :: rs)) (fun (q : Int) (mi : Nat) (s5 : DS) => 0 ≤ q ∧ q + mi ≤ 3) (fun (q : Int) (mi : Nat) (s5 : DS) => q.toNat) (_) (0) (_) (.slice none 0 0) (⟨by omega, by omega⟩) ⟨ke rfl, trivial⟩ (fun _ _ h => h) ?_)))))))))))
 rintro q mi s5 x ⟨hq1, hq2⟩
 refine Tr.seq (Tr.seq (Tr.reg0 (cm rfl (co rfl (ki rfl rfl rfl rfl) (Ch.nil (Fin.go ?_))))))
 refine Tr.cn rfl ?_ ?_ <;> intro h9 q9
 have hq3 : 0 < q := of_decide_eq_true h9
 refine Tr.skip (Fin.go (Tr.seq (Tr.block (Tr.pad (Tr.regX mixed [none, some (0, 2, false, 0), none, none, none, some (0, 4, true, 0), some (0, 4, true, 0), none, some (0, 1, true, 119), none, some (0, 2, true, 119)] (by kernel_rfl) (xo rfl (fun _ => okp_fieldAddr rfl fo29_2 (vl rfl)) (xrd 2 rfl rfl (rd_load1 rfl one27 (vl rfl) rfl) (xm rfl (xm rfl (xo rfl (fun _ => ok_buildSlice (xs := [.const (.string ⟨[98, 97, 99, 107, 117, 112].toArray⟩), .const (.string ⟨[100, 101, 101, 100].toArray⟩)]) (rows := [[_], [_]]) rfl rfl Try.underlying62 sz9 z9 rfl (by decide) ⟨⟨(by exact rfl), (VL.le (vl rfl) (one_cellsP _))⟩, ⟨⟨(by exact rfl), (VL.le (vl rfl) (one_cellsP _))⟩, trivial⟩⟩ (by decide)) ?_))))))))))
 refine Cx.ef 4 rfl rfl (by decide) (ef_callc rfl rfl (by decide) rfl (w_DWordE (l := [[98, 97, 99, 107, 117, 112], [100, 101, 101, 100]]) (by simp) (by simp)) ⟨ke rfl, ⟨_, rfl, full_le _ _⟩, trivial⟩) ?_
 refine Cx.ef 4 rfl rfl (by decide) (ef_callc rfl rfl (by decide) rfl (w_Item) ⟨ke rfl, ke rfl, trivial⟩) (xo rfl (fun _ => ok_buildSlice (xs := [.tmp 117]) (rows := [_]) rfl rfl Try.underlying27 sz71 z71 rfl (by decide) ⟨⟨(by exact rfl), (VL.le (vl rfl) (agg_cellsP _))⟩, trivial⟩ (by decide)) ?_)
 refine Cx.ef 1 rfl rfl (by decide) (ef_append rfl rfl (by decide) rfl Try.underlying27 sz71 by71 z71 rfl (by decide) ⟨_, rfl, andIs_le _ _⟩ ⟨_, rfl, full_le _ _⟩ (by simp only [List.length_append, List.length_replicate, List.length_cons, List.length_nil, List.length_map]; unfold maxLen; omega) (by simp only [List.length_append, List.length_replicate, List.length_cons, List.length_nil, List.length_map]; omega) (appR_is (by exact List.Mem.head _) ⟨_, rfl, andIs_is _ _⟩)) ?_
 refine xo rfl (fun _ => okp_fieldAddr rfl fo29_2 (vl rfl)) (Cx.ef0 2 rfl rfl (ef_storeS rfl rfl rfl (vl rfl) rfl sz27 (by exact Nat.le_of_ble_eq_true rfl)) ?_)
 refine Cx.nil ⟨rfl, ?_⟩
 refine FinX.open2 1 2 119 rfl rfl (by decide) rfl (fun v6 => ?_)
 refine FinX.done (AllC.cons (AllC.cons (AllC.cons (AllC.cons (AllC.cons (AllC.cons (AllC.map _))))))) (Fin.openD 4 rfl (fun s1 => ?_))
 refine Fin.block (Fin.go (Tr.drop 0 (wk4 0 2 3 10 rfl (Tr.reg0 (cm rfl (csu rfl rfl rfl rfl (by omega) (cm rfl (Ch.nil (Fin.reC 1 [slice 9 (es.map rowEp), (Cp.ex fun m : Nat => slice 2 (List.replicate m edR)), andIs v6 (slice 5 (List.replicate (mi + 1) itemR))] rfl ⟨Pr.le_refl _, Pr.le_refl _, own_le (by rw [rep_one]), trivial⟩ (Fin.famD3V1 (q - 1) (mi + 1) (_) v6 (⟨⟨by omega, by omega⟩, by omega⟩) ⟨⟨_, rfl, int_eq (by omega)⟩, ke rfl, ke rfl, ke rfl, trivial⟩ (fun _ _ h => h)))))))))))
 have hq3 : ¬ 0 < q := of_decide_eq_false h9
 refine Tr.exit (Fin.then_exit (Fin.then_exit (Fin.block_here (Fin.go (Tr.seq (Tr.regT (TO.rd 1 rfl rfl rfl (by decide) (rd_loadA rfl agg29 sz29 (vl rfl) rfl rfl) (TO.store_all 2 rfl rfl rfl (vl rfl) (VL.le (vl rfl) (agg_cellsP _)) rfl sz29 rfl rfl (TO.nil (Fin.go (Tr.ret (Fin.closeD 3 _ rfl rfl (Fin.retY1 [_, _, _] rfl (RVal.cell 2 rfl rfl agg29 sz29 rfl (Pr.le_refl _)) ?_ (fun _ _ _ _ => rfl))))))))))))))
 · exact ex_in es (fact_in ⟨⟨by omega, by omega⟩, hk3⟩ (agg_le ⟨Pr.le_refl _, Pr.le_refl _, Pr.le_trans (andIs_le _ _) (ex_in mi (Pr.le_refl _)), trivial⟩))
 refine Tr.skip (Fin.go (Tr.seq (Tr.seq ?_)))
 have hv9 := s3.val_in (n := 3) (by omega)
 refine Tr.reC 1 [slice 9 (es.map rowEp), (Cp.ex fun m : Nat => slice 2 (List.replicate m edR)), is (.slice none 0 0)] rfl ⟨Pr.le_refl _, Pr.le_trans (andIs_le _ _) (ex_in m (Pr.le_refl _)), Pr.le_refl _, trivial⟩ (Tr.drop 0 (Tr.regT (tm rfl (TO.efc 2 rfl rfl (by decide) (ef_callc rfl rfl (by decide) rfl (w_DNext (by omega) (by omega)) ⟨ke rfl, ke rfl, trivial⟩) (tm rfl (TO.nil (Fin.go (wk4 0 2 3 10 rfl (Tr.block (Tr.reC 0 [slice 9 (es.map rowEp), (Cp.ex fun m : Nat => slice 2 (List.replicate m edR)), andIs (.slice none 0 0) (slice 5 (List.replicate 0 itemR))] rfl ⟨Pr.le_refl _, Pr.le_refl _, own_nil rfl, trivial⟩ (Tr.addnil 71 5 (Tr.loopD3V1 [(0, _), (2, _), (3, _)] ⟨ke rfl, ke rfl, ke rfl, trivial⟩ (fun (q : Int) (mi : Nat) (s5 : DS) x => [(10, int q)]) (fun (q : Int) (mi : Nat) (s5 : DS) x => Hp M0 w0 S (appRes 71 5 x :: cellsRes true b2 29 [slice 9 (es.map rowEp), (Cp.ex fun m : Nat => slice 2 (List.replicate m edR)), andIs x (slice 5 (List.replicate mi itemR))] :: cellsRes true b1 29 (([.slice none 0 0, .slice none 0 0, .slice none 0 0] : List Value).map is) :: diceS b s5 :: extRes M1 w1 :: rs)) (fun (q : Int) (mi : Nat) (s5 : DS) => 0 ≤ q ∧ q + mi ≤ 3) (fun (q : Int) (mi : Nat) (s5 : DS) => q.toNat) (_) (0) (_) (.slice none 0 0) (⟨by omega, by omega⟩) ⟨ke rfl, trivial⟩ (fun _ _ h => h) ?_))))))))))))
 rintro q mi s5 x ⟨hq1, hq2⟩
 refine Tr.seq (Tr.seq (Tr.reg0 (cm rfl (co rfl (ki rfl rfl rfl rfl) (Ch.nil (Fin.go ?_))))))
 refine Tr.cn rfl ?_ ?_ <;> intro h10 q10
 have hq3 : 0 < q := of_decide_eq_true h10
 refine Tr.skip (Fin.go (Tr.seq (Tr.block (Tr.pad (Tr.regX mixed [none, some (0, 2, false, 0), none, none, none, some (0, 4, true, 0), some (0, 4, true, 0), none, some (0, 1, true, 119), none, some (0, 2, true, 119)] (by kernel_rfl) (xo rfl (fun _ => okp_fieldAddr rfl fo29_2 (vl rfl)) (xrd 2 rfl rfl (rd_load1 rfl one27 (vl rfl) rfl) (xm rfl (xm rfl (xo rfl (fun _ => ok_buildSlice (xs := [.const (.string ⟨[98, 97, 99, 107, 117, 112].toArray⟩), .const (.string ⟨[100, 101, 101, 100].toArray⟩)]) (rows := [[_], [_]]) rfl rfl Try.underlying62 sz9 z9 rfl (by decide) ⟨⟨(by exact rfl), (VL.le (vl rfl) (one_cellsP _))⟩, ⟨⟨(by exact rfl), (VL.le (vl rfl) (one_cellsP _))⟩, trivial⟩⟩ (by decide)) ?_))))))))))
 refine Cx.ef 4 rfl rfl (by decide) (ef_callc rfl rfl (by decide) rfl (w_DWordE (l := [[98, 97, 99, 107, 117, 112], [100, 101, 101, 100]]) (by simp) (by simp)) ⟨ke rfl, ⟨_, rfl, full_le _ _⟩, trivial⟩) ?_
 refine Cx.ef 4 rfl rfl (by decide) (ef_callc rfl rfl (by decide) rfl (w_Item) ⟨ke rfl, ke rfl, trivial⟩) (xo rfl (fun _ => ok_buildSlice (xs := [.tmp 117]) (rows := [_]) rfl rfl Try.underlying27 sz71 z71 rfl (by decide) ⟨⟨(by exact rfl), (VL.le (vl rfl) (agg_cellsP _))⟩, trivial⟩ (by decide)) ?_)
 refine Cx.ef 1 rfl rfl (by decide) (ef_append rfl rfl (by decide) rfl Try.underlying27 sz71 by71 z71 rfl (by decide) ⟨_, rfl, andIs_le _ _⟩ ⟨_, rfl, full_le _ _⟩ (by simp only [List.length_append, List.length_replicate, List.length_cons, List.length_nil, List.length_map]; unfold maxLen; omega) (by simp only [List.length_append, List.length_replicate, List.length_cons, List.length_nil, List.length_map]; omega) (appR_is (by exact List.Mem.head _) ⟨_, rfl, andIs_is _ _⟩)) ?_
 refine xo rfl (fun _ => okp_fieldAddr rfl fo29_2 (vl rfl)) (Cx.ef0 2 rfl rfl (ef_storeS rfl rfl rfl (vl rfl) rfl sz27 (by exact Nat.le_of_ble_eq_true rfl)) ?_)
 refine Cx.nil ⟨rfl, ?_⟩
 refine FinX.open2 1 2 119 rfl rfl (by decide) rfl (fun v7 => ?_)
 refine FinX.done (AllC.cons (AllC.cons (AllC.cons (AllC.cons (AllC.cons (AllC.cons (AllC.map _))))))) (Fin.openD 4 rfl (fun s2 => ?_))
 refine Fin.block (Fin.go (Tr.drop 0 (wk4 0 2 3 10 rfl (Tr.reg0 (cm rfl (csu rfl rfl rfl rfl (by omega) (cm rfl (Ch.nil (Fin.reC 1 [slice 9 (es.map rowEp), (Cp.ex fun m : Nat => slice 2 (List.replicate m edR)), andIs v7 (slice 5 (List.replicate (mi + 1) itemR))] rfl ⟨Pr.le_refl _, Pr.le_refl _, own_le (by rw [rep_one]), trivial⟩ (Fin.famD3V1 (q - 1) (mi + 1) (_) v7 (⟨⟨by omega, by omega⟩, by omega⟩) ⟨⟨_, rfl, int_eq (by omega)⟩, ke rfl, ke rfl, ke rfl, trivial⟩ (fun _ _ h => h)))))))))))
 have hq3 : ¬ 0 < q := of_decide_eq_false h10
 refine Tr.exit (Fin.then_exit (Fin.then_exit (Fin.block_here (Fin.go (Tr.seq (Tr.regT (TO.rd 1 rfl rfl rfl (by decide) (rd_loadA rfl agg29 sz29 (vl rfl) rfl rfl) (TO.store_all 2 rfl rfl rfl (vl rfl) (VL.le (vl rfl) (agg_cellsP _)) rfl sz29 rfl rfl (TO.nil (Fin.go (Tr.ret (Fin.closeD 3 _ rfl rfl (Fin.retY1 [_, _, _] rfl (RVal.cell 2 rfl rfl agg29 sz29 rfl (Pr.le_refl _)) ?_ (fun _ _ _ _ => rfl))))))))))))))
 · exact ex_in es (fact_in ⟨⟨by omega, by omega⟩, hk3⟩ (agg_le ⟨Pr.le_refl _, Pr.le_refl _, Pr.le_trans (andIs_le _ _) (ex_in mi (Pr.le_refl _)), trivial⟩))
end Go.Proofs.Ytflodcidhlmaaaa
namespace Go.Proofs.Ytflodcidhlmaaaa
open Go Go.RowKit Cp

abbrev sndS : List (List Int) := optS ++ optS.map (14 :: ·)
theorem sndE_suites {i : Nat} {e : Ept} (h : SndE i e) : e.suites ∈ sndS := by
  rcases h.suites with h | ⟨l, h, h2⟩
  · exact List.mem_append_left _ h
  · rw [h2]; exact List.mem_append_right _ (List.mem_map_of_mem h)
theorem sndS_ok : ∀ l ∈ sndS, suitesB l = true ∧ l.length ≤ 5 := by decide +kernel
theorem name_ok : ∀ n ∈ nameL, wordB n = true ∧ n.length ≤ 3 := by decide +kernel
theorem hash_ok : [2, 3].all hashB = true := by decide +kernel
theorem of_rsa2 : ofB 5 2048 2 = true := by decide +kernel
theorem leaf_idB {nm : List UInt8} {k : Nat} {id : Int} (h : nameL[k]? = some nm) (hid : id = 100 + (k : Nat)) {s : Int} (hs : 0 ≤ s ∧ s < 4294967296) : idB (leafI nm 5 2048 id 901 1 s) = true := by
  subst hid
  have hk : k < 3 := lt_of_at h
  have hv := leaf_ok h hs (key := 1) (by omega)
  have hk2 : keyB (100 + (k : Nat)) = true := by unfold keyB; simp; omega
  unfold idB showsB; simp only [of_rsa2, hk2, List.all_cons, List.all_nil, hv]; simp
theorem sndE_ok {i : Nat} {e : Ept} (h : SndE i e) : EptOk e := by
  have hn := name_ok _ (List.mem_of_getElem? h.name)
  have hs := sndS_ok _ (sndE_suites h)
  obtain ⟨s, hs1, hs2⟩ := h.ids
  have hm := h.most; have hl := h.least
  refine ⟨hn.1, by omega, by omega, by omega, hs.1, by rw [hs2]; simp, by rw [h.anchors]; simp, by rw [h.anchors]; decide, by rw [h.hashes]; decide, ?_, by rw [h.anchors]; decide, by rw [h.hashes]; exact hash_ok⟩
  rw [hs2]; simp only [List.all_cons, List.all_nil, leaf_idB h.name rfl hs1, Bool.and_self]
theorem sndE_fits {i : Nat} {e : Ept} (h : SndE i e) : e.fits := by
  have hn := name_ok _ (List.mem_of_getElem? h.name)
  obtain ⟨s, hs1, hs2⟩ := h.ids
  refine ⟨by unfold maxLen; omega, fun x hx c hc => ?_⟩
  rw [hs2] at hx; simp at hx; subst hx; simp at hc; subst hc
  exact ⟨by show 4 ≤ maxLen; unfold maxLen; omega, by show e.name.length ≤ maxLen; unfold maxLen; omega, fun n hn2 => by simp at hn2; subst hn2; unfold maxLen; omega⟩
theorem sndE_small {i : Nat} {e : Ept} (h : SndE i e) : e.small := by
  have hs := sndS_ok _ (sndE_suites h)
  obtain ⟨s, hs1, hs2⟩ := h.ids
  refine ⟨by omega, by rw [h.anchors]; simp, by rw [h.hashes]; simp, by rw [hs2]; simp, fun x hx => ?_⟩
  rw [hs2] at hx; simp at hx; subst hx
  exact ⟨by simp, fun c hc => by simp at hc; subst hc; simp⟩
end Go.Proofs.Ytflodcidhlmaaaa
namespace Go.Proofs.Ytflodcidhlmaaaa
open Go Go.RowKit Cp

end Go.Proofs.Ytflodcidhlmaaaa
namespace Go.Proofs.Ytflodcidhlmaaaa
open Go Go.RowKit Cp

/-- Of some size. -/
structure Ept.sz (e : Ept) (n : Nat) : Prop where
  name : e.name.length ≤ maxLen
  suites : e.suites.length ≤ n
  anchors : e.anchors.length ≤ n
  hashes : e.hashes.length ≤ n
  idl : e.ids.length ≤ n
  ids : ∀ x ∈ e.ids, x.fits ∧ x.small
theorem Ept.sz.fits {e : Ept} {n : Nat} (h : e.sz n) : e.fits := ⟨h.name, fun x hx => (h.ids x hx).1⟩
theorem Ept.sz.small {e : Ept} {n : Nat} (h : e.sz n) (hn : n ≤ 1000000) : e.small := ⟨by have := h.suites; omega, by have := h.anchors; omega, by have := h.hashes; omega, by have := h.idl; omega, fun x hx => (h.ids x hx).2⟩
theorem Ept.sz.le {e : Ept} {n m : Nat} (h : e.sz n) (hn : n ≤ m) : e.sz m := ⟨h.name, Nat.le_trans h.suites hn, Nat.le_trans h.anchors hn, Nat.le_trans h.hashes hn, Nat.le_trans h.idl hn, h.ids⟩
theorem sndE_sz {i : Nat} {e : Ept} (h : SndE i e) : e.sz 5 := by
  have hs := sndS_ok _ (sndE_suites h)
  have h1 := sndE_fits h; have h2 := sndE_small h
  obtain ⟨s, hs1, hs2⟩ := h.ids
  exact ⟨h1.name, hs.2, by rw [h.anchors]; simp, by rw [h.hashes]; simp, by rw [hs2]; simp, fun x hx => ⟨h1.ids x hx, h2.ids x hx⟩⟩
end Go.Proofs.Ytflodcidhlmaaaa
namespace Go.Proofs.Ytflodcidhlmaaaa
open Go Go.RowKit Cp
theorem w_SEqI {a b : List (Int)}  : Fun Try.prog 56 [ints a, ints b] (bool (decide (a = b))) := by
 refine fo Try.func56 rfl ⟨rfl, rfl⟩ fun M0 w0 => (Tr.lenm 0 rfl fun hlm_0 => (Tr.lenm 1 rfl fun hlm_1 => ?_))
 refine ac ?_
 refine ac ?_
 refine Tr.cn rfl ?_ ?_ <;> intro h1 q1
 have hne : ¬ a.length = b.length := by simp_all; omega
 refine ac ?_
 refine ac ?_
 · refine bool_eq ?_; symm; rw [decide_eq_false_iff_not]; rintro rfl; exact hne rfl
 have hll : a.length = b.length := by simp_all; omega
 refine ac ?_
 refine ac ?_
 refine Tr.block (Tr.loopw [(0, _), (1, _), (12, _)] (kk3 rfl) (fun k : Nat => [(13, int ((k : Nat) : Int))]) (fun k : Nat => k ≤ (a).length ∧ (a.take k = b.take k)) (fun k : Nat => (a).length - k) 0 (⟨Nat.zero_le _, rfl⟩) ⟨ke rfl, trivial⟩ ?_)
 rintro k ⟨hle_k, hinv_k⟩
 refine ac ?_
 refine Tr.seq ?_
 refine Tr.cn rfl ?_ ?_ <;> intro h2 q2
 have hk_k : k < (a).length := lt_of_dec h2
 obtain ⟨x, hx_k⟩ := at_ hk_k
 obtain ⟨y, hy⟩ := at_ (l := b) (k := k) (by omega)
 refine ac ?_
 refine ac ?_
 refine ac ?_
 refine co rfl (ok_indexAddr rfl Try.underlying22 sz3 (vl rfl) (vl rfl) (by omega) (row_at hx_k)) ?_
 refine ac ?_
 refine co rfl (ok_indexAddr rfl Try.underlying22 sz3 (vl rfl) (vl rfl) (by omega) (row_at hy)) ?_
 refine ac ?_
 refine wk5 0 1 12 13 24 rfl ?_
 refine Tr.cn rfl ?_ ?_ <;> intro h3 q3
 refine ac ?_
 refine ac ?_
 · refine bool_eq ?_; symm; rw [decide_eq_false_iff_not]; refine sameN hx_k hy ?_; rintro rfl; simp_all
 refine ac ?_
 refine ac ?_
 exact Fin.fam_same (k + 1) ⟨⟨hk_k, sameY hx_k hy hinv_k (by simp_all)⟩, by omega⟩ ⟨⟨_, rfl, int_succ k⟩, ke rfl, ke rfl, ke rfl, trivial⟩
 have he_k : k = (a).length := by have := ge_of_dec h2; omega
 subst he_k
 refine ac ?_
 refine ac ?_
 refine ac ?_
 · refine bool_eq ?_; symm; rw [decide_eq_true_eq]; exact sameA hll hinv_k
theorem w_SEqT {a b : List (List UInt8)}  : Fun Try.prog 76 [txts a, txts b] (bool (decide (a = b))) := by
 refine fo Try.func76 rfl ⟨rfl, rfl⟩ fun M0 w0 => (Tr.lenm 0 rfl fun hlm_0 => (Tr.lenm 1 rfl fun hlm_1 => ?_))
 refine ac ?_
 refine ac ?_
 refine Tr.cn rfl ?_ ?_ <;> intro h1 q1
 have hne : ¬ a.length = b.length := by simp_all; omega
 refine ac ?_
 refine ac ?_
 · refine bool_eq ?_; symm; rw [decide_eq_false_iff_not]; rintro rfl; exact hne rfl
 have hll : a.length = b.length := by simp_all; omega
 refine ac ?_
 refine ac ?_
 refine Tr.block (Tr.loopw [(0, _), (1, _), (12, _)] (kk3 rfl) (fun k : Nat => [(13, int ((k : Nat) : Int))]) (fun k : Nat => k ≤ (a).length ∧ (a.take k = b.take k)) (fun k : Nat => (a).length - k) 0 (⟨Nat.zero_le _, rfl⟩) ⟨ke rfl, trivial⟩ ?_)
 rintro k ⟨hle_k, hinv_k⟩
 refine ac ?_
 refine Tr.seq ?_
 refine Tr.cn rfl ?_ ?_ <;> intro h2 q2
 have hk_k : k < (a).length := lt_of_dec h2
 obtain ⟨x, hx_k⟩ := at_ hk_k
 obtain ⟨y, hy⟩ := at_ (l := b) (k := k) (by omega)
 refine ac ?_
 refine ac ?_
 refine ac ?_
 refine co rfl (ok_indexAddr rfl Try.underlying62 sz9 (vl rfl) (vl rfl) (by omega) (row_at hx_k)) ?_
 refine ac ?_
 refine co rfl (ok_indexAddr rfl Try.underlying62 sz9 (vl rfl) (vl rfl) (by omega) (row_at hy)) ?_
 refine ac ?_
 refine wk5 0 1 12 13 24 rfl ?_
 refine Tr.cn rfl ?_ ?_ <;> intro h3 q3
 refine ac ?_
 refine ac ?_
 · refine bool_eq ?_; symm; rw [decide_eq_false_iff_not]; refine sameN hx_k hy ?_; rintro rfl; simp_all
 refine ac ?_
 refine ac ?_
 exact Fin.fam_same (k + 1) ⟨⟨hk_k, sameY hx_k hy hinv_k (by simp_all)⟩, by omega⟩ ⟨⟨_, rfl, int_succ k⟩, ke rfl, ke rfl, ke rfl, trivial⟩
 have he_k : k = (a).length := by have := ge_of_dec h2; omega
 subst he_k
 refine ac ?_
 refine ac ?_
 refine ac ?_
 · refine bool_eq ?_; symm; rw [decide_eq_true_eq]; exact sameA hll hinv_k
abbrev epts (l : List Ept) : Pr := slice 9 (l.map rowEp)

theorem w_CSame {a b : Crt}  : Fun Try.prog 55 [agg (rowCr a), agg (rowCr b)] (bool (decide (a = b))) := by
 refine fo Try.func55 rfl ⟨rfl, rfl⟩ fun M0 w0 => ?_
 refine ac ?_
 refine wk2 2 3 rfl (Tr.cutk [2, 3] [(5, bool (decide (a.serial = b.serial ∧ a.issuer = b.issuer ∧ a.subject = b.subject ∧ a.names = b.names)))] (True) ?_ (fun h1 => ?_))
 refine ac ?_
 refine Ch.cs 12 rfl ?_ ?_ <;> intro h2 q2
 refine ac ?_
 refine Ch.cs 19 rfl ?_ ?_ <;> intro h3 q3
 refine ac ?_
 refine Ch.cs 26 rfl ?_ ?_ <;> intro h4 q4
 refine ac ?_
 refine cy h4 rfl (kc2 (w_SEqT) rfl rfl rfl) ?_
 refine ac ?_
 exact Fin.fam_same () (by simp_all) ⟨⟨_, rfl, bool_eq (by simp_all)⟩, ke rfl, ke rfl, trivial⟩
 refine ac ?_
 exact Fin.fam_same () (by simp_all) ⟨⟨_, rfl, bool_eq (by simp_all)⟩, ke rfl, ke rfl, trivial⟩
 refine ac ?_
 exact Fin.fam_same () (by simp_all) ⟨⟨_, rfl, bool_eq (by simp_all)⟩, ke rfl, ke rfl, trivial⟩
 refine ac ?_
 exact Fin.fam_same () (by simp_all) ⟨⟨_, rfl, bool_eq (by simp_all)⟩, ke rfl, ke rfl, trivial⟩
 refine wk3 2 3 5 rfl (Tr.cutk [2, 3, 5] [(6, bool (decide (a.kalg = b.kalg ∧ a.kbits = b.kbits ∧ a.keyId = b.keyId ∧ a.halg = b.halg ∧ a.hbits = b.hbits ∧ a.skey = b.skey ∧ a.ssum = b.ssum)))] (True) ?_ (fun h5 => ?_))
 refine ac ?_
 refine co rfl (ok_eq51 rfl (vl rfl) (vl rfl)) (cm rfl ?_)
 refine Ch.cs 38 rfl ?_ ?_ <;> intro h6 q6
 refine ac ?_
 refine Ch.cs 45 rfl ?_ ?_ <;> intro h7 q7
 refine ac ?_
 refine cy h7 rfl (ok_eq51 rfl (vl rfl) (vl rfl)) ?_
 refine ac ?_
 refine Ch.cs 52 rfl ?_ ?_ <;> intro h8 q8
 refine ac ?_
 refine cy h8 rfl (ok_eq89 rfl (vl rfl) (vl rfl)) ?_
 refine ac ?_
 exact Fin.fam_same () (by simp_all) ⟨⟨_, rfl, bool_eq (by simp_all)⟩, ke rfl, ke rfl, ke rfl, trivial⟩
 refine ac ?_
 exact Fin.fam_same () (by simp_all) ⟨⟨_, rfl, bool_eq (by simp_all)⟩, ke rfl, ke rfl, ke rfl, trivial⟩
 refine ac ?_
 exact Fin.fam_same () (by simp_all) ⟨⟨_, rfl, bool_eq (by simp_all)⟩, ke rfl, ke rfl, ke rfl, trivial⟩
 refine ac ?_
 exact Fin.fam_same () (by simp_all) ⟨⟨_, rfl, bool_eq (by simp_all)⟩, ke rfl, ke rfl, ke rfl, trivial⟩
 refine ac ?_
 refine Ch.cs 60 rfl ?_ ?_ <;> intro h9 q9
 refine ac ?_
 refine Ch.cs 63 rfl ?_ ?_ <;> intro h10 q10
 refine ac ?_
 refine Ch.cs 70 rfl ?_ ?_ <;> intro h11 q11
 refine ac ?_
 refine Ch.cs 77 rfl ?_ ?_ <;> intro h12 q12
 refine ac ?_
 refine Ch.cs 84 rfl ?_ ?_ <;> intro h13 q13
 refine ac ?_
 refine wk1 4 rfl ?_
 refine ac ?_
 · refine bool_eq ?_; cases a; cases b; simp_all [Bool.beq_eq_decide_eq]
 refine ac ?_
 refine wk1 4 rfl ?_
 refine ac ?_
 · refine bool_eq ?_; cases a; cases b; simp_all [Bool.beq_eq_decide_eq]
 refine ac ?_
 refine wk1 4 rfl ?_
 refine ac ?_
 · refine bool_eq ?_; cases a; cases b; simp_all [Bool.beq_eq_decide_eq]
 refine ac ?_
 refine wk1 4 rfl ?_
 refine ac ?_
 · refine bool_eq ?_; cases a; cases b; simp_all [Bool.beq_eq_decide_eq]
 refine ac ?_
 refine wk1 4 rfl ?_
 refine ac ?_
 · refine bool_eq ?_; cases a; cases b; simp_all [Bool.beq_eq_decide_eq]
 refine ac ?_
 refine wk1 4 rfl ?_
 refine ac ?_
 · refine bool_eq ?_; cases a; cases b; simp_all [Bool.beq_eq_decide_eq]
theorem e_CSame : Entry Try.prog 55 := ⟨_, Try.func55, rfl, rfl⟩
theorem w_EqFC {a b : List Crt}  : Fun Try.prog 54 [certs a, certs b, clo Try.prog (fun p : Crt × Crt => [agg (rowCr p.1), agg (rowCr p.2)]) (fun p => bool (decide (p.1 = p.2)))] (bool (decide (a = b))) := by
 refine fo Try.func54 rfl ⟨rfl, rfl⟩ fun M0 w0 => (Tr.lenm 0 rfl fun hlm_0 => (Tr.lenm 1 rfl fun hlm_1 => ?_))
 refine ac ?_
 refine ac ?_
 refine Tr.cn rfl ?_ ?_ <;> intro h1 q1
 have hne : ¬ a.length = b.length := by simp_all; omega
 refine ac ?_
 refine ac ?_
 · refine bool_eq ?_; symm; rw [decide_eq_false_iff_not]; rintro rfl; exact hne rfl
 have hll : a.length = b.length := by simp_all; omega
 refine ac ?_
 refine ac ?_
 refine Tr.block (Tr.loopw [(1, _), (2, _), (15, _), (16, _)] (kk4 rfl) (fun k : Nat => [(17, int ((k : Nat) : Int))]) (fun k : Nat => k ≤ (a).length ∧ (a.take k = b.take k)) (fun k : Nat => (a).length - k) 0 (⟨Nat.zero_le _, rfl⟩) ⟨ke rfl, trivial⟩ ?_)
 rintro k ⟨hle_k, hinv_k⟩
 refine ac ?_
 refine Tr.seq ?_
 refine Tr.cn rfl ?_ ?_ <;> intro h2 q2
 have hk_k : k < (a).length := lt_of_dec h2
 obtain ⟨x, hx_k⟩ := at_ hk_k
 obtain ⟨y, hy⟩ := at_ (l := b) (k := k) (by omega)
 refine ac ?_
 refine ao ?_
 refine tp rfl (ok_indexAddr rfl Try.underlying53 sz91 (vl rfl) (vl rfl) (by omega) (row_at hx_k)) (tp rfl (ok_loadA rfl agg91 sz91 (vl rfl) rfl rfl) ?_)
 refine TO.alloc rfl rfl (by decide) rfl z91 zo91 (fun b1 => ?_)
 refine tm rfl ?_
 refine sf 0 8 ⟨rfl, rfl, rfl⟩ rfl rfl rfl rfl ?_
 refine ao ?_
 refine ao ?_
 refine tp rfl (ok_indexAddr rfl Try.underlying53 sz91 (vl rfl) (vl rfl) (by omega) (row_at hy)) (tp rfl (ok_loadA rfl agg91 sz91 (vl rfl) rfl rfl) ?_)
 refine TO.alloc rfl rfl (by decide) rfl z91 zo91 (fun b2 => ?_)
 refine sf 0 9 ⟨rfl, rfl, rfl⟩ rfl rfl rfl rfl ?_
 refine ao ?_
 refine wk7 1 2 8 9 15 16 17 rfl ?_
 refine ac ?_
 refine co rfl (ok_callc (x, y) rfl (vl rfl) ⟨ke rfl, ke rfl, trivial⟩) ?_
 refine ac ?_
 refine Tr.cn rfl ?_ ?_ <;> intro h3 q3
 refine ac ?_
 refine ac ?_
 · refine bool_eq ?_; symm; rw [decide_eq_false_iff_not]; refine sameN hx_k hy ?_; rintro rfl; simp_all
 refine ac ?_
 refine ac ?_
 exact Fin.fam_same (k + 1) ⟨⟨hk_k, sameY hx_k hy hinv_k (by simp_all)⟩, by omega⟩ ⟨⟨_, rfl, int_succ k⟩, ke rfl, ke rfl, ke rfl, ke rfl, trivial⟩
 have he_k : k = (a).length := by have := ge_of_dec h2; omega
 subst he_k
 refine ac ?_
 refine ac ?_
 refine ac ?_
 · refine bool_eq ?_; symm; rw [decide_eq_true_eq]; exact sameA hll hinv_k
theorem w_ES1 {a b : Idn}  : Fun Try.prog 53 [agg (rowId a), agg (rowId b)] (bool (decide (a = b))) := by
 refine fo Try.func53 rfl ⟨rfl, rfl⟩ fun M0 w0 => ?_
 refine ac ?_
 refine ac ?_
 refine co rfl (ok_eq51 rfl (vl rfl) (vl rfl)) (cm rfl ?_)
 refine Ch.cs 10 rfl ?_ ?_ <;> intro h1 q1
 refine ac ?_
 refine Ch.cs 17 rfl ?_ ?_ <;> intro h2 q2
 refine ac ?_
 refine cy h2 rfl (ok_call rfl (w_EqFC) ⟨ke rfl, ke rfl, ⟨_, rfl, fn_le_clo (dom := fun p : Crt × Crt => [agg (rowCr p.1), agg (rowCr p.2)]) (res := fun p => bool (decide (p.1 = p.2))) e_CSame (fun p => w_CSame (a := p.1) (b := p.2))⟩, trivial⟩) ?_
 refine ac ?_
 refine wk1 4 rfl ?_
 refine ac ?_
 · refine bool_eq ?_; cases a; cases b; simp_all [Bool.beq_eq_decide_eq]
 refine ac ?_
 refine wk1 4 rfl ?_
 refine ac ?_
 · refine bool_eq ?_; cases a; cases b; simp_all [Bool.beq_eq_decide_eq]
 refine ac ?_
 refine wk1 4 rfl ?_
 refine ac ?_
 · refine bool_eq ?_; cases a; cases b; simp_all [Bool.beq_eq_decide_eq]
theorem e_ES1 : Entry Try.prog 53 := ⟨_, Try.func53, rfl, rfl⟩
theorem w_EqFN {a b : List Idn}  : Fun Try.prog 57 [idns a, idns b, clo Try.prog (fun p : Idn × Idn => [agg (rowId p.1), agg (rowId p.2)]) (fun p => bool (decide (p.1 = p.2)))] (bool (decide (a = b))) := by
 refine fo Try.func57 rfl ⟨rfl, rfl⟩ fun M0 w0 => (Tr.lenm 0 rfl fun hlm_0 => (Tr.lenm 1 rfl fun hlm_1 => ?_))
 refine ac ?_
 refine ac ?_
 refine Tr.cn rfl ?_ ?_ <;> intro h1 q1
 have hne : ¬ a.length = b.length := by simp_all; omega
 refine ac ?_
 refine ac ?_
 · refine bool_eq ?_; symm; rw [decide_eq_false_iff_not]; rintro rfl; exact hne rfl
 have hll : a.length = b.length := by simp_all; omega
 refine ac ?_
 refine ac ?_
 refine Tr.block (Tr.loopw [(1, _), (2, _), (15, _), (16, _)] (kk4 rfl) (fun k : Nat => [(17, int ((k : Nat) : Int))]) (fun k : Nat => k ≤ (a).length ∧ (a.take k = b.take k)) (fun k : Nat => (a).length - k) 0 (⟨Nat.zero_le _, rfl⟩) ⟨ke rfl, trivial⟩ ?_)
 rintro k ⟨hle_k, hinv_k⟩
 refine ac ?_
 refine Tr.seq ?_
 refine Tr.cn rfl ?_ ?_ <;> intro h2 q2
 have hk_k : k < (a).length := lt_of_dec h2
 obtain ⟨x, hx_k⟩ := at_ hk_k
 obtain ⟨y, hy⟩ := at_ (l := b) (k := k) (by omega)
 refine ac ?_
 refine ao ?_
 refine tp rfl (ok_indexAddr rfl Try.underlying33 sz55 (vl rfl) (vl rfl) (by omega) (row_at hx_k)) (tp rfl (ok_loadA rfl agg55 sz55 (vl rfl) rfl rfl) ?_)
 refine TO.alloc rfl rfl (by decide) rfl z55 zo55 (fun b1 => ?_)
 refine tm rfl ?_
 refine sf 0 8 ⟨rfl, rfl, rfl⟩ rfl rfl rfl rfl ?_
 refine ao ?_
 refine ao ?_
 refine tp rfl (ok_indexAddr rfl Try.underlying33 sz55 (vl rfl) (vl rfl) (by omega) (row_at hy)) (tp rfl (ok_loadA rfl agg55 sz55 (vl rfl) rfl rfl) ?_)
 refine TO.alloc rfl rfl (by decide) rfl z55 zo55 (fun b2 => ?_)
 refine sf 0 9 ⟨rfl, rfl, rfl⟩ rfl rfl rfl rfl ?_
 refine ao ?_
 refine wk7 1 2 8 9 15 16 17 rfl ?_
 refine ac ?_
 refine co rfl (ok_callc (x, y) rfl (vl rfl) ⟨ke rfl, ke rfl, trivial⟩) ?_
 refine ac ?_
 refine Tr.cn rfl ?_ ?_ <;> intro h3 q3
 refine ac ?_
 refine ac ?_
 · refine bool_eq ?_; symm; rw [decide_eq_false_iff_not]; refine sameN hx_k hy ?_; rintro rfl; simp_all
 refine ac ?_
 refine ac ?_
 exact Fin.fam_same (k + 1) ⟨⟨hk_k, sameY hx_k hy hinv_k (by simp_all)⟩, by omega⟩ ⟨⟨_, rfl, int_succ k⟩, ke rfl, ke rfl, ke rfl, ke rfl, trivial⟩
 have he_k : k = (a).length := by have := ge_of_dec h2; omega
 subst he_k
 refine ac ?_
 refine ac ?_
 refine ac ?_
 · refine bool_eq ?_; symm; rw [decide_eq_true_eq]; exact sameA hll hinv_k
theorem w_ESame {a b : Ept}  : Fun Try.prog 36 [agg (rowEp a), agg (rowEp b)] (bool (decide (a = b))) := by
 refine fo Try.func36 rfl ⟨rfl, rfl⟩ fun M0 w0 => ?_
 refine ac ?_
 refine ac ?_
 refine wk3 2 3 5 rfl (Tr.cutk [2, 3, 5] [(6, bool (decide (a.suites = b.suites ∧ a.anchors = b.anchors ∧ a.hashes = b.hashes)))] (True) ?_ (fun h1 => ?_))
 refine ac ?_
 refine co rfl (kc2 (w_SEqI) rfl rfl rfl) (cm rfl ?_)
 refine Ch.cs 12 rfl ?_ ?_ <;> intro h2 q2
 refine ac ?_
 refine cy h2 rfl (kc2 (w_SEqI) rfl rfl rfl) ?_
 refine ac ?_
 refine Ch.cs 19 rfl ?_ ?_ <;> intro h3 q3
 refine ac ?_
 refine cy h3 rfl (kc2 (w_SEqI) rfl rfl rfl) ?_
 refine ac ?_
 exact Fin.fam_same () (by simp_all) ⟨⟨_, rfl, bool_eq (by simp_all)⟩, ke rfl, ke rfl, ke rfl, trivial⟩
 refine ac ?_
 exact Fin.fam_same () (by simp_all) ⟨⟨_, rfl, bool_eq (by simp_all)⟩, ke rfl, ke rfl, ke rfl, trivial⟩
 refine ac ?_
 exact Fin.fam_same () (by simp_all) ⟨⟨_, rfl, bool_eq (by simp_all)⟩, ke rfl, ke rfl, ke rfl, trivial⟩
 refine ac ?_
 refine Ch.cs 31 rfl ?_ ?_ <;> intro h4 q4
 refine ac ?_
 refine Ch.cs 38 rfl ?_ ?_ <;> intro h5 q5
 refine ac ?_
 refine Ch.cs 45 rfl ?_ ?_ <;> intro h6 q6
 refine ac ?_
 refine Ch.cs 52 rfl ?_ ?_ <;> intro h7 q7
 refine ac ?_
 refine Ch.cs 59 rfl ?_ ?_ <;> intro h8 q8
 refine ac ?_
 refine Ch.cs 62 rfl ?_ ?_ <;> intro h9 q9
 refine ac ?_
 refine cy h9 rfl (ok_call rfl (w_EqFN) ⟨ke rfl, ke rfl, ⟨_, rfl, fn_le_clo (dom := fun p : Idn × Idn => [agg (rowId p.1), agg (rowId p.2)]) (res := fun p => bool (decide (p.1 = p.2))) e_ES1 (fun p => w_ES1 (a := p.1) (b := p.2))⟩, trivial⟩) ?_
 refine ac ?_
 refine wk1 4 rfl ?_
 refine ac ?_
 · refine bool_eq ?_; cases a; cases b; simp_all [Bool.beq_eq_decide_eq]
 refine ac ?_
 refine wk1 4 rfl ?_
 refine ac ?_
 · refine bool_eq ?_; cases a; cases b; simp_all [Bool.beq_eq_decide_eq]
 refine ac ?_
 refine wk1 4 rfl ?_
 refine ac ?_
 · refine bool_eq ?_; cases a; cases b; simp_all [Bool.beq_eq_decide_eq]
 refine ac ?_
 refine wk1 4 rfl ?_
 refine ac ?_
 · refine bool_eq ?_; cases a; cases b; simp_all [Bool.beq_eq_decide_eq]
 refine ac ?_
 refine wk1 4 rfl ?_
 refine ac ?_
 · refine bool_eq ?_; cases a; cases b; simp_all [Bool.beq_eq_decide_eq]
 refine ac ?_
 refine wk1 4 rfl ?_
 refine ac ?_
 · refine bool_eq ?_; cases a; cases b; simp_all [Bool.beq_eq_decide_eq]
 refine ac ?_
 refine wk1 4 rfl ?_
 refine ac ?_
 · refine bool_eq ?_; cases a; cases b; simp_all [Bool.beq_eq_decide_eq]
theorem e_ESame : Entry Try.prog 36 := ⟨_, Try.func36, rfl, rfl⟩
theorem w_EqFE {a b : List Ept}  : Fun Try.prog 37 [epts a, epts b, clo Try.prog (fun p : Ept × Ept => [agg (rowEp p.1), agg (rowEp p.2)]) (fun p => bool (decide (p.1 = p.2)))] (bool (decide (a = b))) := by
 refine fo Try.func37 rfl ⟨rfl, rfl⟩ fun M0 w0 => (Tr.lenm 0 rfl fun hlm_0 => (Tr.lenm 1 rfl fun hlm_1 => ?_))
 refine ac ?_
 refine ac ?_
 refine Tr.cn rfl ?_ ?_ <;> intro h1 q1
 have hne : ¬ a.length = b.length := by simp_all; omega
 refine ac ?_
 refine ac ?_
 · refine bool_eq ?_; symm; rw [decide_eq_false_iff_not]; rintro rfl; exact hne rfl
 have hll : a.length = b.length := by simp_all; omega
 refine ac ?_
 refine ac ?_
 refine Tr.block (Tr.loopw [(1, _), (2, _), (15, _), (16, _)] (kk4 rfl) (fun k : Nat => [(17, int ((k : Nat) : Int))]) (fun k : Nat => k ≤ (a).length ∧ (a.take k = b.take k)) (fun k : Nat => (a).length - k) 0 (⟨Nat.zero_le _, rfl⟩) ⟨ke rfl, trivial⟩ ?_)
 rintro k ⟨hle_k, hinv_k⟩
 refine ac ?_
 refine Tr.seq ?_
 refine Tr.cn rfl ?_ ?_ <;> intro h2 q2
 have hk_k : k < (a).length := lt_of_dec h2
 obtain ⟨x, hx_k⟩ := at_ hk_k
 obtain ⟨y, hy⟩ := at_ (l := b) (k := k) (by omega)
 refine ac ?_
 refine ao ?_
 refine tp rfl (ok_indexAddr rfl Try.underlying25 sz35 (vl rfl) (vl rfl) (by omega) (row_at hx_k)) (tp rfl (ok_loadA rfl agg35 sz35 (vl rfl) rfl rfl) ?_)
 refine TO.alloc rfl rfl (by decide) rfl z35 zo35 (fun b1 => ?_)
 refine tm rfl ?_
 refine sf 0 8 ⟨rfl, rfl, rfl⟩ rfl rfl rfl rfl ?_
 refine ao ?_
 refine ao ?_
 refine tp rfl (ok_indexAddr rfl Try.underlying25 sz35 (vl rfl) (vl rfl) (by omega) (row_at hy)) (tp rfl (ok_loadA rfl agg35 sz35 (vl rfl) rfl rfl) ?_)
 refine TO.alloc rfl rfl (by decide) rfl z35 zo35 (fun b2 => ?_)
 refine sf 0 9 ⟨rfl, rfl, rfl⟩ rfl rfl rfl rfl ?_
 refine ao ?_
 refine wk7 1 2 8 9 15 16 17 rfl ?_
 refine ac ?_
 refine co rfl (ok_callc (x, y) rfl (vl rfl) ⟨ke rfl, ke rfl, trivial⟩) ?_
 refine ac ?_
 refine Tr.cn rfl ?_ ?_ <;> intro h3 q3
 refine ac ?_
 refine ac ?_
 · refine bool_eq ?_; symm; rw [decide_eq_false_iff_not]; refine sameN hx_k hy ?_; rintro rfl; simp_all
 refine ac ?_
 refine ac ?_
 exact Fin.fam_same (k + 1) ⟨⟨hk_k, sameY hx_k hy hinv_k (by simp_all)⟩, by omega⟩ ⟨⟨_, rfl, int_succ k⟩, ke rfl, ke rfl, ke rfl, ke rfl, trivial⟩
 have he_k : k = (a).length := by have := ge_of_dec h2; omega
 subst he_k
 refine ac ?_
 refine ac ?_
 refine ac ?_
 · refine bool_eq ?_; symm; rw [decide_eq_true_eq]; exact sameA hll hinv_k
end Go.Proofs.Ytflodcidhlmaaaa
namespace Go.Proofs.Ytflodcidhlmaaaa
open Go Go.RowKit Cp

/-- A host. -/
structure Hst where
  ep : Ept
  bef : List Ept
deriving DecidableEq
abbrev rowH (h : Hst) : List Pr := [str h.ep.name, int h.ep.least, int h.ep.most, ints h.ep.suites, bool h.ep.own, idns h.ep.ids, ints h.ep.anchors, ints h.ep.hashes, bool h.ep.fall, epts h.bef]
structure Hst.small (h : Hst) : Prop where
  ep : h.ep.small
  len : h.bef.length ≤ 1000000
  bef : ∀ e ∈ h.bef, e.small
def zeroH : Hst := ⟨zeroEp, []⟩
def backH (h : Hst) : Hst × Int := match h.bef[h.bef.length - 1]? with | some x => (⟨x, h.bef.take (h.bef.length - 1)⟩, 0) | none => (h, 4)
theorem backH_at {h : Hst} {x : Ept} (hx : h.bef[h.bef.length - 1]? = some x) : backH h = (⟨x, h.bef.take (h.bef.length - 1)⟩, 0) := by unfold backH; rw [hx]
def lastN {β : Type} (n : Nat) (l : List β) : List β := l.drop (l.length - n)
def tryH (h : Hst) (to : Ept) (k : Int) : Hst × Bool × Int :=
  if eptB to = false then (h, false, 19) else if to.name ≠ h.ep.name then (h, false, 14) else if ¬ (0 ≤ k ∧ k ≤ 3) then (h, false, 2)
  else (if k = 0 ∨ k = 2 then ⟨to, lastN 24 (h.bef ++ [h.ep])⟩ else h, decide (k = 0 ∨ k = 3), 0)

theorem andIs_mono {v : Value} {p q : Pr} (h : Pr.le p q) : Pr.le (andIs v p) (andIs v q) := fun _ _ _ x => ⟨x.1, h _ _ _ x.2⟩
theorem snocM {β γ : Type} {f : β → γ} {l : List β} {k : Nat} {x : β} (h : l[k]? = some x) : (l.take k).map f ++ [f x] = (l.take (k + 1)).map f := by rw [List.take_add_one, h, List.map_append]; rfl
theorem w_HCopy {h : Hst} (hs : h.small) : Fun Try.prog 29 [agg (rowH h)] (agg (rowH h)) := by
 refine fo Try.func29 rfl ⟨rfl, rfl⟩ fun M0 w0 => ?_
 have hl := hs.len
 refine Tr.seq (Tr.regT (tp rfl (ok_box rfl (VL.le (vl rfl) (agg_cellsP _))) ?_))
 refine TO.alloc rfl rfl (by decide) rfl z37 zo37 (fun b1 => ?_)
 refine ao ?_
 refine ao ?_
 refine tp rfl (kc1 (w_CopyEz hs.ep) rfl rfl) (tp rfl (ok_build (rows := [(0, _)]) rfl bl37 zo37 ⟨⟨rfl, (VL.le (vl rfl) (agg_cellsP _))⟩, trivial⟩ rfl) ?_)
 refine TO.alloc rfl rfl (by decide) rfl z37 zo37 (fun b2 => ?_)
 refine TO.store_all 0 rfl rfl rfl (vl rfl) (VL.le (vl rfl) (agg_cellsP _)) rfl sz37 rfl rfl ?_
 refine ao ?_
 refine ac ?_
 refine Tr.block (Tr.reC 0 [str h.ep.name, int h.ep.least, int h.ep.most, ints h.ep.suites, bool h.ep.own, idns h.ep.ids, ints h.ep.anchors, ints h.ep.hashes, bool h.ep.fall, andIs (.slice none 0 0) (slice 9 ((h.bef.take 0).map rowEp))] rfl ⟨Pr.le_refl _, Pr.le_refl _, Pr.le_refl _, Pr.le_refl _, Pr.le_refl _, Pr.le_refl _, Pr.le_refl _, Pr.le_refl _, Pr.le_refl _, own_nil rfl, trivial⟩ (Tr.addnil 35 9 (Tr.loopV1 [(2, _), (3, _), (11, _), (12, _)] ⟨ke rfl, ke rfl, ke rfl, ke rfl, trivial⟩ (fun k v => [(13, int ((k : Nat) : Int))]) (fun k v => Hp M0 w0 noS ([appRes 35 9 v, cellsRes true b2 37 [str h.ep.name, int h.ep.least, int h.ep.most, ints h.ep.suites, bool h.ep.own, idns h.ep.ids, ints h.ep.anchors, ints h.ep.hashes, bool h.ep.fall, andIs v (slice 9 ((h.bef.take k).map rowEp))], cellsRes true b1 37 (([.string (ByteArray.mk #[]), .int .i64 0, .int .i64 0, .slice none 0 0, .bool false, .slice none 0 0, .slice none 0 0, .slice none 0 0, .bool false, .slice none 0 0] : List Value).map is)])) (fun k : Nat => k ≤ (h.bef).length) (fun k : Nat => (h.bef).length - k) 0 (.slice none 0 0) (Nat.zero_le _) ⟨ke rfl, trivial⟩ (fun _ _ h => h) ?_)))
 rintro k v hle_k
 refine ac ?_
 refine Tr.seq ?_
 refine Tr.cn rfl ?_ ?_ <;> intro h1 q1
 have hk_k : k < (h.bef).length := lt_of_dec h1
 obtain ⟨x, hx_k⟩ := at_ hk_k
 have hxs := hs.bef x (List.mem_of_getElem? hx_k)
 refine ac ?_
 refine Tr.seq (Tr.block (Tr.seq (Tr.regT (tp rfl (ok_indexAddr rfl Try.underlying25 sz35 (vl rfl) (vl rfl) (by omega) (by exact row_at (by assumption))) ?_))))
 refine tp rfl (ok_loadA rfl agg35 sz35 (vl rfl) rfl rfl) ?_
 refine TO.alloc rfl rfl (by decide) rfl z35 zo35 (fun b3 => ?_)
 refine sf 0 5 ⟨rfl, rfl, rfl⟩ rfl rfl rfl rfl ?_
 refine ao ?_
 refine Tr.pad (Tr.rx ?_)
 refine ax ?_
 refine xo rfl (fun _ => kc1 (w_CopyEz hxs) rfl rfl) (xo rfl (fun _ => ok_buildSlice (xs := [.tmp 20]) (rows := [_]) rfl rfl Try.underlying25 sz35 z35 rfl (by decide) ⟨⟨(by exact rfl), (VL.le (vl rfl) (agg_cellsP _))⟩, trivial⟩ (by decide)) ?_)
 refine Cx.ef 1 rfl rfl (by decide) (ef_append rfl rfl (by decide) rfl Try.underlying25 sz35 by35 z35 rfl (by decide) ⟨_, rfl, andIs_le _ _⟩ ⟨_, rfl, full_le _ _⟩ (by simp only [List.length_map, List.length_append, List.length_cons, List.length_nil, List.length_take]; unfold maxLen; omega) (by simp only [List.length_map, List.length_append, List.length_cons, List.length_nil, List.length_take]; omega) (appR_is (by exact List.Mem.head _) ⟨_, rfl, andIs_is _ _⟩)) ?_
 refine xo rfl (fun _ => okp_fieldAddr rfl fo37_1 (vl rfl)) (Cx.ef0 2 rfl rfl (ef_storeS rfl rfl rfl (vl rfl) rfl sz25 (by exact Nat.le_of_ble_eq_true rfl)) ?_)
 refine Cx.nil ⟨by kernel_rfl, ?_⟩
 refine FinX.open2 1 2 22 rfl rfl (by decide) rfl (fun v1 => ?_)
 refine FinX.done al4 ?_
 refine ac ?_
 refine Tr.drop 0 (wk5 2 3 11 12 13 rfl ?_)
 refine ac ?_
 refine Fin.reC 1 [str h.ep.name, int h.ep.least, int h.ep.most, ints h.ep.suites, bool h.ep.own, idns h.ep.ids, ints h.ep.anchors, ints h.ep.hashes, bool h.ep.fall, andIs v1 (slice 9 ((h.bef.take (k + 1)).map rowEp))] rfl ⟨Pr.le_refl _, Pr.le_refl _, Pr.le_refl _, Pr.le_refl _, Pr.le_refl _, Pr.le_refl _, Pr.le_refl _, Pr.le_refl _, Pr.le_refl _, own_le (snocM (f := rowEp) hx_k), trivial⟩ (Fin.famV1 (k + 1) v1 (⟨hk_k, by omega⟩) ⟨⟨_, rfl, int_succ k⟩, ke rfl, ke rfl, ke rfl, ke rfl, trivial⟩ (fun _ _ h => h))
 have he_k : k = (h.bef).length := by have := ge_of_dec h1; omega
 subst he_k
 refine ac ?_
 refine ao ?_
 refine TO.store_all 2 rfl rfl rfl (vl rfl) (VL.le (vl rfl) (agg_cellsP _)) rfl sz37 rfl rfl ?_
 refine ao ?_
 refine Tr.ret (Fin.retX1 rfl (RVal.cell 2 rfl rfl agg37 sz37 rfl (Pr.le_refl _)) ?_)
 · exact agg_le ⟨Pr.le_refl _, Pr.le_refl _, Pr.le_refl _, Pr.le_refl _, Pr.le_refl _, Pr.le_refl _, Pr.le_refl _, Pr.le_refl _, Pr.le_refl _, Pr.le_trans (andIs_le _ _) (Pr.le_of_eq (by rw [List.take_length])), trivial⟩
theorem w_HNew {e : Ept} (hf : e.fits) (hsm : e.small) : Fun Try.prog 10 [agg (rowEp e)] (tup [agg (rowH (if eptB e = true then ⟨e, []⟩ else zeroH)), int (if eptB e = true then 0 else 19)]) := by
 refine fo Try.func10 rfl ⟨rfl, rfl⟩ fun M0 w0 => (Tr.seq (Tr.regT (tp rfl (ok_box rfl (VL.le (vl rfl) (agg_cellsP _))) ?_)))
 refine TO.alloc rfl rfl (by decide) rfl z37 zo37 (fun b1 => ?_)
 refine ap ?_
 refine ac ?_
 refine co rfl (kc1 (w_ECheck hf) rfl rfl) ?_
 refine ac ?_
 refine Tr.cn rfl ?_ ?_ <;> intro h1 q1
 have hne : ¬ eptB e = true := by have := q1; cases h_ : eptB e <;> simp_all
 refine ap ?_
 refine Tr.ret (Fin.then_ret (Fin.retX2 rfl (RVal.cell 0 rfl rfl agg37 sz37 rfl (Pr.le_refl _)) (RVal.tmp rfl (Pr.le_refl _)) ?_))
 refine tup_le ⟨?_, ?_, trivial⟩
 · rw [if_neg hne]; exact agg_le ⟨Pr.le_refl _, Pr.le_refl _, Pr.le_refl _, nil_slice 1, Pr.le_refl _, nil_slice 4, nil_slice 1, nil_slice 1, Pr.le_refl _, nil_slice 9, trivial⟩
 · exact int_eq (by rw [if_neg hne])
 have hce : eptB e = true := by have := q1; cases h_ : eptB e <;> simp_all
 refine ac ?_
 refine ap ?_
 refine tp rfl (ok_call rfl (w_HCopy (h := ⟨e, []⟩) ⟨hsm, by show 0 ≤ _; omega, fun x hx => by cases hx⟩) ⟨⟨_, rfl, agg_le ⟨Pr.le_refl _, Pr.le_refl _, Pr.le_refl _, Pr.le_refl _, Pr.le_refl _, Pr.le_refl _, Pr.le_refl _, Pr.le_refl _, Pr.le_refl _, nil_slice 9, trivial⟩⟩, trivial⟩) ?_
 refine ap ?_
 refine Tr.ret (Fin.retX2 rfl (RVal.cell 0 rfl rfl agg37 sz37 rfl (Pr.le_refl _)) (RVal.tmp rfl (Pr.le_refl _)) ?_)
 refine tup_le ⟨?_, ?_, trivial⟩
 · rw [if_pos hce]; exact Pr.le_refl _
 · exact int_eq (by rw [if_pos hce])
theorem w_fValid {n : Int}  : Fun Try.prog 30 [int n] (bool (decide (0 ≤ n ∧ n ≤ 3))) := by
 refine fo Try.func30 rfl ⟨rfl, rfl⟩ fun M0 w0 => ?_
 refine ac ?_
 refine ac ?_
 refine Ch.cs 5 rfl ?_ ?_ <;> intro h1 q1
 refine ac ?_
 refine ac ?_
 · refine bool_eq ?_; rw [Bool.eq_iff_iff]; simp_all
 refine ac ?_
 refine ac ?_
 · refine bool_eq ?_; rw [Bool.eq_iff_iff]; simp_all; omega
theorem w_fDone {n : Int}  : Fun Try.prog 31 [int n] (bool (decide (n = 0 ∨ n = 2))) := by
 refine fo Try.func31 rfl ⟨rfl, rfl⟩ fun M0 w0 => ?_
 refine ac ?_
 refine ac ?_
 refine Ch.cs 5 rfl ?_ ?_ <;> intro h1 q1
 refine ac ?_
 refine ac ?_
 · refine bool_eq ?_; rw [Bool.eq_iff_iff]; simp_all
 refine ac ?_
 refine ac ?_
 · refine bool_eq ?_; rw [Bool.eq_iff_iff]; simp_all
theorem w_fSays {n : Int}  : Fun Try.prog 32 [int n] (bool (decide (n = 0 ∨ n = 3))) := by
 refine fo Try.func32 rfl ⟨rfl, rfl⟩ fun M0 w0 => ?_
 refine ac ?_
 refine ac ?_
 refine Ch.cs 5 rfl ?_ ?_ <;> intro h1 q1
 refine ac ?_
 refine ac ?_
 · refine bool_eq ?_; rw [Bool.eq_iff_iff]; simp_all
 refine ac ?_
 refine ac ?_
 · refine bool_eq ?_; rw [Bool.eq_iff_iff]; simp_all
theorem w_HSame {a b : Hst}  : Fun Try.prog 16 [agg (rowH a), agg (rowH b)] (bool (decide (a = b))) := by
 refine fo Try.func16 rfl ⟨rfl, rfl⟩ fun M0 w0 => ?_
 refine ac ?_
 refine ac ?_
 refine co rfl (kc2 (w_ESame (a := a.ep) (b := b.ep)) rfl rfl rfl) ?_
 refine cm rfl ?_
 refine Ch.cs 10 rfl ?_ ?_ <;> intro h1 q1
 refine ac ?_
 refine cy h1 rfl (ok_call rfl (w_EqFE (a := a.bef) (b := b.bef)) ⟨ke rfl, ke rfl, ⟨_, rfl, fn_le_clo (dom := fun p : Ept × Ept => [agg (rowEp p.1), agg (rowEp p.2)]) (res := fun p => bool (decide (p.1 = p.2))) e_ESame (fun p => w_ESame (a := p.1) (b := p.2))⟩, trivial⟩) ?_
 refine ac ?_
 refine wk1 4 rfl ?_
 refine ac ?_
 · refine bool_eq ?_; cases a; cases b; simp_all
 refine ac ?_
 refine wk1 4 rfl ?_
 refine ac ?_
 · refine bool_eq ?_; cases a; cases b; simp_all
theorem w_HBack {h : Hst} (hs : h.small) : Fun Try.prog 12 [agg (rowH h)] (tup [agg (rowH (backH h).1), int (backH h).2]) := by
 refine fo Try.func12 rfl ⟨rfl, rfl⟩ fun M0 w0 => (Tr.seq (Tr.regT (tp rfl (ok_box rfl (VL.le (vl rfl) (agg_cellsP _))) ?_)))
 refine TO.alloc rfl rfl (by decide) rfl z37 zo37 (fun b1 => ?_)
 refine ap ?_
 refine ap ?_
 refine tp rfl (kc1 (w_HCopy hs) rfl rfl) ?_
 refine TO.alloc rfl rfl (by decide) rfl z37 zo37 (fun b2 => ?_)
 refine ap ?_
 refine ac ?_
 refine ac ?_
 refine wk4 2 4 5 12 rfl ?_
 refine Tr.cn rfl ?_ ?_ <;> intro h1 q1
 have hz : h.bef = [] := List.eq_nil_of_length_eq_zero (by have := q1; omega)
 have hb : backH h = (h, 4) := by unfold backH; rw [hz]; rfl
 refine ap ?_
 refine Tr.drop 0 (Tr.ret (Fin.then_ret (Fin.retX2 rfl (RVal.cell 0 rfl rfl agg37 sz37 rfl (Pr.le_refl _)) (RVal.tmp rfl (Pr.le_refl _)) ?_)))
 refine tup_le ⟨?_, ?_, trivial⟩
 · rw [hb]; exact Pr.le_refl _
 · exact int_eq (by rw [hb])
 obtain ⟨x, hx⟩ := at_ (l := h.bef) (k := h.bef.length - 1) (by have := q1; omega)
 have hb := backH_at hx
 have hlt := lt_of_at hx
 have hl := hs.len
 refine ac ?_
 refine Tr.seq (Tr.rx ?_)
 refine ay ?_
 refine xo rfl (fun _ => ok_indexAddr rfl Try.underlying25 sz35 (vl rfl) (vl rfl) (by omega) (row_atI (f := rowEp) (by rw [show (((h.bef.length : Nat) : Int) - 1).toNat = h.bef.length - 1 by omega]; exact hx))) ?_
 refine ay ?_
 refine xo rfl (fun _ => ok_sliceTo rfl Try.underlying25 sz35 (vl rfl) (vl rfl) (by omega) (by simp; omega)) ?_
 refine ay ?_
 refine Cx.nil ⟨by kernel_rfl, ?_⟩
 refine FinX.done al2 (Fin.go (wk2 2 4 rfl ?_))
 refine ap ?_
 refine Tr.drop 0 (Tr.ret (Fin.retX2 rfl (RVal.cell 0 rfl rfl agg37 sz37 rfl (Pr.le_refl _)) (RVal.tmp rfl (Pr.le_refl _)) ?_))
 refine tup_le ⟨?_, ?_, trivial⟩
 · rw [hb]; exact agg_le ⟨Pr.le_refl _, Pr.le_refl _, Pr.le_refl _, Pr.le_refl _, Pr.le_refl _, Pr.le_refl _, Pr.le_refl _, Pr.le_refl _, Pr.le_refl _, Pr.le_of_eq (by show _ = slice 9 ((h.bef.take (h.bef.length - 1)).map rowEp); rw [List.map_take, show (((h.bef.length : Nat) : Int) - 1).toNat = h.bef.length - 1 by omega]), trivial⟩
 · exact int_eq (by rw [hb])
theorem w_HCopyV {h : Hst} (hs : h.small) : FunV Try.prog 29 [agg (rowH h)] (fun x => agg [str h.ep.name, int h.ep.least, int h.ep.most, ints h.ep.suites, bool h.ep.own, idns h.ep.ids, ints h.ep.anchors, ints h.ep.hashes, bool h.ep.fall, andIs x (slice 9 (h.bef.map rowEp))]) (fun x => [appRes 35 9 x]) := by
 refine FunV.of Try.func29 rfl rfl (by exact Nat.le_of_ble_eq_true rfl) fun M0 w0 S rs M1 w1 => ?_
 have hl := hs.len
 refine Tr.seq (Tr.regT (tp rfl (ok_box rfl (VL.le (vl rfl) (agg_cellsP _))) ?_))
 refine TO.alloc rfl rfl (by decide) rfl z37 zo37 (fun b1 => ?_)
 refine ao ?_
 refine ao ?_
 refine tp rfl (kc1 (w_CopyEz hs.ep) rfl rfl) (tp rfl (ok_build (rows := [(0, _)]) rfl bl37 zo37 ⟨⟨rfl, (VL.le (vl rfl) (agg_cellsP _))⟩, trivial⟩ rfl) ?_)
 refine TO.alloc rfl rfl (by decide) rfl z37 zo37 (fun b2 => ?_)
 refine TO.store_all 0 rfl rfl rfl (vl rfl) (VL.le (vl rfl) (agg_cellsP _)) rfl sz37 rfl rfl ?_
 refine ao ?_
 refine ac ?_
 refine Tr.block (Tr.reC 0 [str h.ep.name, int h.ep.least, int h.ep.most, ints h.ep.suites, bool h.ep.own, idns h.ep.ids, ints h.ep.anchors, ints h.ep.hashes, bool h.ep.fall, andIs (.slice none 0 0) (slice 9 ((h.bef.take 0).map rowEp))] rfl ⟨Pr.le_refl _, Pr.le_refl _, Pr.le_refl _, Pr.le_refl _, Pr.le_refl _, Pr.le_refl _, Pr.le_refl _, Pr.le_refl _, Pr.le_refl _, own_nil rfl, trivial⟩ (Tr.addnil 35 9 (Tr.loopV1 [(2, _), (3, _), (11, _), (12, _)] ⟨ke rfl, ke rfl, ke rfl, ke rfl, trivial⟩ (fun k v => [(13, int ((k : Nat) : Int))]) (fun k v => Hp M0 w0 S (appRes 35 9 v :: cellsRes true b2 37 [str h.ep.name, int h.ep.least, int h.ep.most, ints h.ep.suites, bool h.ep.own, idns h.ep.ids, ints h.ep.anchors, ints h.ep.hashes, bool h.ep.fall, andIs v (slice 9 ((h.bef.take k).map rowEp))] :: cellsRes true b1 37 (([.string (ByteArray.mk #[]), .int .i64 0, .int .i64 0, .slice none 0 0, .bool false, .slice none 0 0, .slice none 0 0, .slice none 0 0, .bool false, .slice none 0 0] : List Value).map is) :: extRes M1 w1 :: rs)) (fun k : Nat => k ≤ (h.bef).length) (fun k : Nat => (h.bef).length - k) 0 (.slice none 0 0) (Nat.zero_le _) ⟨ke rfl, trivial⟩ (fun _ _ h => h) ?_)))
 rintro k v hle_k
 refine ac ?_
 refine Tr.seq ?_
 refine Tr.cn rfl ?_ ?_ <;> intro h1 q1
 have hk_k : k < (h.bef).length := lt_of_dec h1
 obtain ⟨x, hx_k⟩ := at_ hk_k
 have hxs := hs.bef x (List.mem_of_getElem? hx_k)
 refine ac ?_
 refine Tr.seq (Tr.block (Tr.seq (Tr.regT (tp rfl (ok_indexAddr rfl Try.underlying25 sz35 (vl rfl) (vl rfl) (by omega) (by exact row_at (by assumption))) ?_))))
 refine tp rfl (ok_loadA rfl agg35 sz35 (vl rfl) rfl rfl) ?_
 refine TO.alloc rfl rfl (by decide) rfl z35 zo35 (fun b3 => ?_)
 refine sf 0 5 ⟨rfl, rfl, rfl⟩ rfl rfl rfl rfl ?_
 refine ao ?_
 refine Tr.pad (Tr.rx ?_)
 refine ax ?_
 refine xo rfl (fun _ => kc1 (w_CopyEz hxs) rfl rfl) (xo rfl (fun _ => ok_buildSlice (xs := [.tmp 20]) (rows := [_]) rfl rfl Try.underlying25 sz35 z35 rfl (by decide) ⟨⟨(by exact rfl), (VL.le (vl rfl) (agg_cellsP _))⟩, trivial⟩ (by decide)) ?_)
 refine Cx.ef 1 rfl rfl (by decide) (ef_append rfl rfl (by decide) rfl Try.underlying25 sz35 by35 z35 rfl (by decide) ⟨_, rfl, andIs_le _ _⟩ ⟨_, rfl, full_le _ _⟩ (by simp only [List.length_map, List.length_append, List.length_cons, List.length_nil, List.length_take]; unfold maxLen; omega) (by simp only [List.length_map, List.length_append, List.length_cons, List.length_nil, List.length_take]; omega) (appR_is (by exact List.Mem.head _) ⟨_, rfl, andIs_is _ _⟩)) ?_
 refine xo rfl (fun _ => okp_fieldAddr rfl fo37_1 (vl rfl)) (Cx.ef0 2 rfl rfl (ef_storeS rfl rfl rfl (vl rfl) rfl sz25 (by exact Nat.le_of_ble_eq_true rfl)) ?_)
 refine Cx.nil ⟨by kernel_rfl, ?_⟩
 refine FinX.open2 1 2 22 rfl rfl (by decide) rfl (fun v1 => ?_)
 refine FinX.done al5 ?_
 refine ac ?_
 refine Tr.drop 0 (wk5 2 3 11 12 13 rfl ?_)
 refine ac ?_
 refine Fin.reC 1 [str h.ep.name, int h.ep.least, int h.ep.most, ints h.ep.suites, bool h.ep.own, idns h.ep.ids, ints h.ep.anchors, ints h.ep.hashes, bool h.ep.fall, andIs v1 (slice 9 ((h.bef.take (k + 1)).map rowEp))] rfl ⟨Pr.le_refl _, Pr.le_refl _, Pr.le_refl _, Pr.le_refl _, Pr.le_refl _, Pr.le_refl _, Pr.le_refl _, Pr.le_refl _, Pr.le_refl _, own_le (snocM (f := rowEp) hx_k), trivial⟩ (Fin.famV1 (k + 1) v1 (⟨hk_k, by omega⟩) ⟨⟨_, rfl, int_succ k⟩, ke rfl, ke rfl, ke rfl, ke rfl, trivial⟩ (fun _ _ h => h))
 have he_k : k = (h.bef).length := by have := ge_of_dec h1; omega
 subst he_k
 refine ac ?_
 refine ao ?_
 refine TO.store_all 2 rfl rfl rfl (vl rfl) (VL.le (vl rfl) (agg_cellsP _)) rfl sz37 rfl rfl ?_
 refine ao ?_
 refine Tr.ret (Fin.drop 1 (Fin.swap01 (Fin.retV v [_] rfl (RVal.cell 0 rfl rfl agg37 sz37 rfl (Pr.le_refl _)) ?_ (List.Perm.refl _))))
 · exact agg_le ⟨Pr.le_refl _, Pr.le_refl _, Pr.le_refl _, Pr.le_refl _, Pr.le_refl _, Pr.le_refl _, Pr.le_refl _, Pr.le_refl _, Pr.le_refl _, andIs_mono (Pr.le_of_eq (by rw [List.take_length])), trivial⟩
theorem w_HTry {h : Hst} {to_ : Ept} {k : Int} (hs : h.small) (hsl : h.bef.length ≤ 900000) (hf : to_.fits) (hsm : to_.small) : Fun Try.prog 11 [agg (rowH h), agg (rowEp to_), int k] (tup [agg (rowH (tryH h to_ k).1), bool (tryH h to_ k).2.1, int (tryH h to_ k).2.2]) := by
 refine fo Try.func11 rfl ⟨rfl, rfl⟩ fun M0 w0 => (Tr.seq (Tr.regT (tp rfl (ok_box rfl (VL.le (vl rfl) (agg_cellsP _))) (tp rfl (ok_box rfl (VL.le (vl rfl) (agg_cellsP _))) ?_))))
 refine TO.alloc rfl rfl (by decide) rfl z37 zo37 (fun b1 => ?_)
 refine ap ?_
 refine ap ?_
 refine TO.callV rfl rfl (by decide) rfl (w_HCopyV hs) ⟨ke rfl, trivial⟩ (fun v1 => ?_)
 refine tm rfl ?_
 refine TO.alloc rfl rfl (by decide) rfl z37 zo37 (fun b2 => ?_)
 refine ap ?_
 refine ac ?_
 refine co rfl (kc1 (w_ECheck hf) rfl rfl) ?_
 refine ac ?_
 refine wk6 3 4 6 9 10 16 rfl ?_
 refine Tr.cn rfl ?_ ?_ <;> intro h1 q1
 have hb : tryH h to_ k = (h, false, 19) := if_pos (by have := q1; cases h_ : eptB to_ <;> simp_all)
 refine ap ?_
 refine Tr.drop 0 (Tr.ret (Fin.block_ret (Fin.then_ret (Fin.retX3 rfl (RVal.cell 1 rfl rfl agg37 sz37 rfl (Pr.le_refl _)) (RVal.tmp rfl (Pr.le_refl _)) (RVal.tmp rfl (Pr.le_refl _)) ?_))))
 refine tup_le ⟨?_, ?_, ?_, trivial⟩
 · rw [hb]; exact agg_le ⟨Pr.le_refl _, Pr.le_refl _, Pr.le_refl _, Pr.le_refl _, Pr.le_refl _, Pr.le_refl _, Pr.le_refl _, Pr.le_refl _, Pr.le_refl _, andIs_le _ _, trivial⟩
 · exact bool_eq (by rw [hb])
 · exact int_eq (by rw [hb])
 have hce : eptB to_ = true := by have := q1; cases h_ : eptB to_ <;> simp_all
 refine ac ?_
 refine Tr.cn rfl ?_ ?_ <;> intro h2 q2
 have hb : tryH h to_ k = (h, false, 14) := by unfold tryH; rw [if_neg (by rw [hce]; decide), if_pos q2]
 refine ap ?_
 refine Tr.drop 0 (wk3 6 7 8 rfl (Tr.ret (Fin.block_ret (Fin.then_ret (Fin.retX3 rfl (RVal.cell 1 rfl rfl agg37 sz37 rfl (Pr.le_refl _)) (RVal.tmp rfl (Pr.le_refl _)) (RVal.tmp rfl (Pr.le_refl _)) ?_)))))
 refine tup_le ⟨?_, ?_, ?_, trivial⟩
 · rw [hb]; exact agg_le ⟨Pr.le_refl _, Pr.le_refl _, Pr.le_refl _, Pr.le_refl _, Pr.le_refl _, Pr.le_refl _, Pr.le_refl _, Pr.le_refl _, Pr.le_refl _, andIs_le _ _, trivial⟩
 · exact bool_eq (by rw [hb])
 · exact int_eq (by rw [hb])
 refine ac ?_
 refine co rfl (kc1 (w_fValid) rfl rfl) ?_
 refine ac ?_
 refine wk5 4 6 9 10 29 rfl ?_
 refine Tr.cn rfl ?_ ?_ <;> intro h3 q3
 have hb : tryH h to_ k = (h, false, 2) := by unfold tryH; rw [if_neg (by rw [hce]; decide), if_neg (fun hh => hh q2), if_pos (by have := q3; simpa using this)]
 refine ap ?_
 refine Tr.drop 0 (Tr.ret (Fin.block_ret (Fin.then_ret (Fin.retX3 rfl (RVal.cell 1 rfl rfl agg37 sz37 rfl (Pr.le_refl _)) (RVal.tmp rfl (Pr.le_refl _)) (RVal.tmp rfl (Pr.le_refl _)) ?_))))
 refine tup_le ⟨?_, ?_, ?_, trivial⟩
 · rw [hb]; exact agg_le ⟨Pr.le_refl _, Pr.le_refl _, Pr.le_refl _, Pr.le_refl _, Pr.le_refl _, Pr.le_refl _, Pr.le_refl _, Pr.le_refl _, Pr.le_refl _, andIs_le _ _, trivial⟩
 · exact bool_eq (by rw [hb])
 · exact int_eq (by rw [hb])
 refine ac ?_
 refine ac ?_
 refine ac ?_
 refine co rfl (ok_callf rfl (vl rfl) (show Fun _ _ ([int k] ++ []) _ from w_fDone) ⟨ke rfl, trivial⟩) ?_
 refine ac ?_
 refine Tr.cn rfl ?_ ?_ <;> intro h4 q4
 have hb : tryH h to_ k = (⟨to_, lastN 24 (h.bef ++ [h.ep])⟩, decide (k = 0 ∨ k = 3), 0) := by unfold tryH; rw [if_neg (by rw [hce]; decide), if_neg (fun hh => hh q2), if_neg (by have := q3; simpa using this), if_pos (by have := q4; simpa using this)]
 refine ap ?_
 refine TO.efs 1 rfl rfl (by decide) (ef_append rfl rfl (by decide) rfl Try.underlying25 sz35 by35 z35 rfl (by decide) ⟨_, rfl, andIs_le _ _⟩ ⟨_, rfl, full_le _ _⟩ (by simp only [List.length_map, List.length_append, List.length_cons, List.length_nil, List.length_take]; unfold maxLen; omega) (by simp only [List.length_map, List.length_append, List.length_cons, List.length_nil, List.length_take]; omega) (appR_is (by exact List.Mem.head _) ⟨_, rfl, andIs_is _ _⟩)) (fun v2 => ?_)
 refine ap ?_
 refine wk5 4 6 9 10 12 rfl (Tr.seq ?_)
 have hll : (h.bef ++ [h.ep]).length = h.bef.length + 1 := by simp
 refine Tr.reC 0 [str h.ep.name, int h.ep.least, int h.ep.most, ints h.ep.suites, bool h.ep.own, idns h.ep.ids, ints h.ep.anchors, ints h.ep.hashes, bool h.ep.fall, andIs v2 (slice 9 ((h.bef ++ [h.ep]).map rowEp))] rfl ⟨Pr.le_refl _, Pr.le_refl _, Pr.le_refl _, Pr.le_refl _, Pr.le_refl _, Pr.le_refl _, Pr.le_refl _, Pr.le_refl _, Pr.le_refl _, andIs_mono (Pr.le_of_eq (by rw [List.map_append]; rfl)), trivial⟩ ?_
 refine ap ?_
 refine tp rfl (ok_lenm rfl Try.underlying25 ⟨_, rfl, andIs_le _ _⟩) ?_
 refine tp rfl (ok_sub rfl (vl rfl) (vl rfl) ?hin) ?_; case hin => unfold InI; omega
 refine tp rfl (ok_max rfl (vl rfl) (vl rfl)) ?_
 refine tp rfl (ok_sliceFrom rfl Try.underlying25 sz35 ⟨_, rfl, andIs_le _ _⟩ (vl rfl) (by omega) (by simp; omega)) ?_
 refine ap ?_
 refine Tr.drop 1 (wk5 4 6 9 10 12 rfl ?_)
 refine ap ?_
 refine tp rfl (ok_call rfl (w_HCopy (h := ⟨to_, []⟩) ⟨hsm, by show 0 ≤ _; omega, fun x hx => by cases hx⟩) ⟨⟨_, rfl, agg_le ⟨Pr.le_refl _, Pr.le_refl _, Pr.le_refl _, Pr.le_refl _, Pr.le_refl _, Pr.le_refl _, Pr.le_refl _, Pr.le_refl _, Pr.le_refl _, nil_slice 9, trivial⟩⟩, trivial⟩) ?_
 refine tp rfl (ok_fieldG (k := 0) rfl (by kernel_rfl) agg35 sz35 (vl rfl) rfl) ?_
 refine ap ?_
 refine Tr.seq (Tr.rx ?_)
 refine ay ?_
 refine xo rfl (fun _ => ok_callf rfl (vl rfl) (show Fun _ _ ([int k] ++ []) _ from w_fSays) ⟨ke rfl, trivial⟩) ?_
 refine ay ?_
 refine Cx.nil ⟨by kernel_rfl, ?_⟩
 refine FinX.done al2 (Fin.go (Tr.drop 0 (wk3 6 7 8 rfl (Tr.ret (Fin.retX3 rfl (RVal.cell 0 rfl rfl agg37 sz37 rfl (Pr.le_refl _)) (RVal.tmp rfl (Pr.le_refl _)) (RVal.tmp rfl (Pr.le_refl _)) ?_)))))
 refine tup_le ⟨?_, ?_, ?_, trivial⟩
 · rw [hb]; exact agg_le ⟨Pr.le_refl _, Pr.le_refl _, Pr.le_refl _, Pr.le_refl _, Pr.le_refl _, Pr.le_refl _, Pr.le_refl _, Pr.le_refl _, Pr.le_refl _, Pr.le_of_eq (by show _ = slice 9 ((lastN 24 (h.bef ++ [h.ep])).map rowEp); unfold lastN; rw [List.map_drop]; congr 2; omega), trivial⟩
 · exact bool_eq (by rw [hb])
 · exact int_eq (by rw [hb])
 have hb : tryH h to_ k = (h, decide (k = 0 ∨ k = 3), 0) := by unfold tryH; rw [if_neg (by rw [hce]; decide), if_neg (fun hh => hh q2), if_neg (by have := q3; simpa using this), if_neg (by have := q4; simpa using this)]
 refine ac ?_
 refine Tr.seq (Tr.rx ?_)
 refine ay ?_
 refine xo rfl (fun _ => ok_callf rfl (vl rfl) (show Fun _ _ ([int k] ++ []) _ from w_fSays) ⟨ke rfl, trivial⟩) ?_
 refine ay ?_
 refine Cx.nil ⟨by kernel_rfl, ?_⟩
 refine FinX.done al3 (Fin.go (Tr.drop 0 (wk3 6 7 8 rfl (Tr.ret (Fin.retX3 rfl (RVal.cell 1 rfl rfl agg37 sz37 rfl (Pr.le_refl _)) (RVal.tmp rfl (Pr.le_refl _)) (RVal.tmp rfl (Pr.le_refl _)) ?_)))))
 refine tup_le ⟨?_, ?_, ?_, trivial⟩
 · rw [hb]; exact agg_le ⟨Pr.le_refl _, Pr.le_refl _, Pr.le_refl _, Pr.le_refl _, Pr.le_refl _, Pr.le_refl _, Pr.le_refl _, Pr.le_refl _, Pr.le_refl _, andIs_le _ _, trivial⟩
 · exact bool_eq (by rw [hb])
 · exact int_eq (by rw [hb])
end Go.Proofs.Ytflodcidhlmaaaa
namespace Go.Proofs.Ytflodcidhlmaaaa
open Go Go.RowKit Cp

theorem hs0 {e : Ept} (h : e.small) : (⟨e, []⟩ : Hst).small := ⟨h, by show 0 ≤ _; omega, fun x hx => by cases hx⟩
theorem w_HNewY {e : Ept} (hf : e.fits) (hsm : e.small) (hce : eptB e = true) : Fun Try.prog 10 [agg (rowEp e)] (tup [agg (rowH ⟨e, []⟩), int 0]) := by
  have := w_HNew hf hsm; rw [if_pos hce, if_pos hce] at this; exact this
theorem w_HNewN {e : Ept} (hf : e.fits) (hsm : e.small) (hce : eptB e = false) : Fun Try.prog 10 [agg (rowEp e)] (tup [agg (rowH zeroH), int 19]) := by
  have := w_HNew hf hsm; rw [if_neg (by rw [hce]; decide), if_neg (by rw [hce]; decide)] at this; exact this
theorem ep0_fits : zeroEp.fits := ⟨by show 0 ≤ _; omega, fun x hx => by cases hx⟩
theorem ep0_small : zeroEp.small := ⟨by show 0 ≤ _; omega, by show 0 ≤ _; omega, by show 0 ≤ _; omega, by show 0 ≤ _; omega, fun x hx => by cases hx⟩
abbrev eH : Ept := ⟨[97, 112, 112], 1, 3, [], false, [], [], [], false⟩
theorem eH_fits : eH.fits := ⟨by show 3 ≤ maxLen; unfold maxLen; omega, fun x hx => by cases hx⟩
theorem eH_small : eH.small := ⟨by show 0 ≤ _; omega, by show 0 ≤ _; omega, by show 0 ≤ _; omega, by show 0 ≤ _; omega, fun x hx => by cases hx⟩
theorem eH_ok : eptB eH = true := by decide
theorem w_HBack0 {e : Ept} (h : e.small) : Fun Try.prog 12 [agg (rowH ⟨e, []⟩)] (tup [agg (rowH ⟨e, []⟩), int 4]) := w_HBack (hs0 h)

theorem w_awake36   : Fun Try.prog 7 [] (bool true) := by
 refine Fun.of Try.func7 rfl rfl (by exact Nat.le_of_ble_eq_true rfl) fun M0 w0 => ?_
 refine Tr.seq (Tr.reg0 (cm rfl (Ch.nil (Fin.go (Tr.seq (Tr.regT (tp rfl (ok_build (rows := []) rfl bl35 zo35 trivial rfl) (tp rfl (ok_call rfl (w_HNewN ep0_fits ep0_small (by decide)) ⟨⟨_, rfl, agg_le ⟨Pr.le_refl _, Pr.le_refl _, Pr.le_refl _, nil_slice 1, Pr.le_refl _, nil_slice 4, nil_slice 1, nil_slice 1, Pr.le_refl _, trivial⟩⟩, trivial⟩) (tm rfl (tp rfl (ok_extract rfl (vl rfl) rfl) (tp rfl (ok_extract rfl (vl rfl) rfl) ?_)))))))))))
 refine TO.alloc rfl rfl (by decide) rfl z37 zo37 (fun b1 => ?_)
 refine TO.store_all 0 rfl rfl rfl (vl rfl) (VL.le (vl rfl) (agg_cellsP _)) rfl sz37 rfl rfl (TO.freeze 0 1 rfl rfl (tm rfl (TO.nil (Fin.go (Tr.seq (Tr.regT (tp rfl (ok_build (rows := [(0, [_]), (1, [_]), (2, [_])]) rfl bl35 zo35 ⟨⟨rfl, (VL.le (vl rfl) (one_cellsP _))⟩, ⟨⟨rfl, (VL.le (vl rfl) (one_cellsP _))⟩, ⟨⟨rfl, (VL.le (vl rfl) (one_cellsP _))⟩, trivial⟩⟩⟩ rfl) (tp rfl (ok_call rfl (w_HNewY eH_fits eH_small eH_ok) ⟨⟨_, rfl, agg_le ⟨Pr.le_refl _, Pr.le_refl _, Pr.le_refl _, nil_slice 1, Pr.le_refl _, nil_slice 4, nil_slice 1, nil_slice 1, Pr.le_refl _, trivial⟩⟩, trivial⟩) (tm rfl (tp rfl (ok_extract rfl (vl rfl) rfl) (tp rfl (ok_extract rfl (vl rfl) rfl) ?_)))))))))))
 refine TO.alloc rfl rfl (by decide) rfl z37 zo37 (fun b2 => ?_)
 refine TO.store_all 0 rfl rfl rfl (vl rfl) (VL.le (vl rfl) (agg_cellsP _)) rfl sz37 rfl rfl (TO.freeze 0 3 rfl rfl (tm rfl (TO.nil (Fin.go (wk3 2 3 4 rfl (Tr.seq (Tr.regT (tp rfl (ok_loadA rfl agg37 sz37 (vl rfl) rfl rfl) (tp rfl (ok_call rfl (w_HBack0 eH_small) ⟨ke rfl, trivial⟩) (tm rfl (tp rfl (ok_extract rfl (vl rfl) rfl) (tp rfl (ok_extract rfl (vl rfl) rfl) ?_))))))))))))
 refine TO.alloc rfl rfl (by decide) rfl z37 zo37 (fun b3 => ?_)
 refine TO.store_all 0 rfl rfl rfl (vl rfl) (VL.le (vl rfl) (agg_cellsP _)) rfl sz37 rfl rfl (TO.freeze 0 5 rfl rfl (tm rfl (TO.nil (Fin.go (Tr.seq (Tr.reg0 (cm rfl (co rfl (ki rfl rfl rfl rfl) (cm rfl ?_)))))))))
 refine Ch.cs 24 rfl ?_ ?_ <;> intro h1 q1
 refine cym h1 rfl (cy h1 rfl (ki rfl rfl rfl rfl) (co rfl (kpt rfl rfl h1 rfl) (cm rfl ?_)))
 refine Ch.cs 28 rfl ?_ ?_ <;> intro h2 q2
 refine cy h2 rfl (kfa rfl fo37_0 rfl rfl) (cy h2 rfl (kfa rfl fo35_0 rfl rfl) (cy h2 rfl (kl1 rfl one9 rfl) (cy h2 rfl (ok_eqs rfl (vl rfl) (vl rfl)) (co rfl (kpt rfl rfl h2 rfl) (cm rfl ?_)))))
 refine Ch.cs 34 rfl ?_ ?_ <;> intro h3 q3
 refine cym h3 rfl (cy h3 rfl (ki rfl rfl rfl rfl) (co rfl (kpt rfl rfl h3 rfl) (cm rfl (Ch.nil (Fin.go (wk1 0 rfl (Tr.ret (Fin.ret1 rfl (OutW.bse _ _) rfl ?_))))))))
 · exact Pr.le_refl _
 exact absurd h3 (by decide)
 exact absurd h2 (by decide)
 exact absurd h1 (by decide)
end Go.Proofs.Ytflodcidhlmaaaa
namespace Go.Proofs.Ytflodcidhlmaaaa
open Go Go.RowKit Cp

abbrev crtM (iss su : List UInt8) (a c id sg : Int) (au : Bool) (sr h fr to_ pa : Int) (nm : List (List UInt8)) (key s : Int) : Crt := ⟨sr, iss, su, a, c, id, h, 0, fr, to_, au, pa, nm, key, s⟩
abbrev crtE : Pr := Cp.ex fun c : Crt => fact (validB c = true) (agg (rowCr c))
/-- What may be drawn for a certificate. -/
structure MkH (iss su : List UInt8) (a c id sg : Int) : Prop where
  iss : named iss = true
  su : namesB [su, su ++ [120]] = true
  key : ofB a c 2 = true
  a : 0 ≤ a ∧ a ≤ 40000
  c : 0 ≤ c ∧ c ≤ 40000
  id : 0 ≤ id ∧ id ≤ 40000
  sg : 0 ≤ sg ∧ sg ≤ 40000
theorem nmsB_two {su t : List UInt8} (h : namesB [su, t] = true) : named su = true ∧ namesB [su] = true := by
  unfold namesB at h
  rw [Bool.and_eq_true] at h
  have h0 := allI_iff.1 h.1 0 (by simp)
  have h1 : named su = true := by unfold nameAt at h0; simp at h0; exact h0
  refine ⟨h1, ?_⟩
  unfold namesB; rw [Bool.and_eq_true]
  refine ⟨allI_iff.2 fun j hj => ?_, by simp⟩
  have : j = 0 := by simp at hj; omega
  subst this; unfold nameAt; simp [h1]
theorem mhash_ok {h : Int} (hh : h ∈ [3, 2, 4, 1]) : ofB h 0 1 = true ∧ 0 ≤ h ∧ h ≤ 40000 := by
  simp at hh; rcases hh with rfl | rfl | rfl | rfl <;> exact ⟨by decide +kernel, by omega, by omega⟩
theorem mk_valid {iss su : List UInt8} {a c id sg : Int} (hm : MkH iss su a c id sg) {au : Bool} {sr h fr to_ pa key s : Int} {nm : List (List UInt8)} (hsr : 0 ≤ sr ∧ sr < 1000) (hh : h ∈ [3, 2, 4, 1]) (hfr : fr ∈ [0, 5, 10]) (hto : to_ ∈ [1000, 100, 50, 20]) (hpa : 0 ≤ pa ∧ pa ≤ 3) (hau : au = true ∨ pa = 0) (hnm : nm = [su] ∨ nm = [su, su ++ [120]]) (hk : 0 ≤ key ∧ key ≤ 2147483648) (hs : 0 ≤ s ∧ s < 4294967296) :
    validB (crtM iss su a c id sg au sr h fr to_ pa nm key s) = true := by
  have h1 := nmsB_two hm.su
  have hi := hm.id
  simp at hfr hto
  refine of_vf ⟨hsr.1, by show sr ≤ _; omega, hm.iss, h1.1, ?_, hm.key, hi.1, by show id ≤ _; omega, (mhash_ok hh).1, hk.1, hk.2, hs.1, hs.2, by show 0 ≤ fr; omega, by show fr ≤ to_; omega, by show to_ ≤ _; omega, hpa.1, by show pa ≤ _; omega, hau⟩
  rcases hnm with rfl | rfl
  · exact h1.2
  · exact hm.su
theorem mk_tiny {iss su : List UInt8} {a c id sg : Int} (hm : MkH iss su a c id sg) {au : Bool} {sr h fr to_ pa key s : Int} {nm : List (List UInt8)} (hsr : 0 ≤ sr ∧ sr < 1000) (hh : h ∈ [3, 2, 4, 1]) : (crtM iss su a c id sg au sr h fr to_ pa nm key s).tiny :=
  ⟨by show sr ≤ _; omega, hm.id.2, hm.a, hm.c, (mhash_ok hh).2, by show (0 : Int) ≤ 0 ∧ (0 : Int) ≤ 40000; omega⟩

theorem w_mkCert {b : Nat} {s : DS} {iss su : List UInt8} {a c id sg : Int} {au : Bool} (hm : MkH iss su a c id sg) : FunM Try.prog 52 [ptr b 0, str iss, str su, agg [int a, int c], int id, int sg, bool au] (crtE) (diceS b s) (fun _ => diceEx 75 b) := by
 refine FunM.of Try.func52 rfl rfl (by exact Nat.le_of_ble_eq_true rfl) fun M0 w0 S rs M1 w1 => ?_
 have hsr := s.val_in (n := 1000) (by omega)
 have hh := s.adv.of_mem (l := [3, 2, 4, 1]) (by simp)
 have hfr := s.adv.adv.of_mem (l := [0, 5, 10]) (by simp)
 have hto := s.adv.adv.adv.of_mem (l := [1000, 100, 50, 20]) (by simp)
 have hpp := s.adv.adv.adv.adv.of_mem (l := [3, 0, 1]) (by simp)
 have hpa : 0 ≤ s.adv.adv.adv.adv.of [3, 0, 1] ∧ s.adv.adv.adv.adv.of [3, 0, 1] ≤ 3 := by simp at hpp; omega
 have hsg : 0 ≤ sg ∧ sg ≤ 2147483648 := ⟨hm.sg.1, by have := hm.sg.2; omega⟩
 refine Tr.seq (Tr.regT (tp rfl (ok_box rfl (VL.le (vl rfl) (agg_cellsP _))) ?_))
 refine TO.alloc rfl rfl (by decide) rfl z91 zo91 (fun b1 => ?_)
 refine ap ?_
 refine Tr.seq (Tr.pad (Tr.rx (xm rfl (Cx.ef 2 rfl rfl (by decide) (ef_callc rfl rfl (by decide) rfl (w_DNext (by omega) (by omega)) ⟨ke rfl, ke rfl, trivial⟩) ?_))))
 refine ax ?_
 refine xo rfl (fun _ => ok_buildSlice (xs := [.const (.int .i64 (3)), .const (.int .i64 (2)), .const (.int .i64 (4)), .const (.int .i64 (1))]) (rows := [[_], [_], [_], [_]]) rfl rfl Try.underlying22 sz3 z3 rfl (by decide) ⟨⟨(by exact rfl), (VL.le (vl rfl) (one_cellsP _))⟩, ⟨⟨(by exact rfl), (VL.le (vl rfl) (one_cellsP _))⟩, ⟨⟨(by exact rfl), (VL.le (vl rfl) (one_cellsP _))⟩, ⟨⟨(by exact rfl), (VL.le (vl rfl) (one_cellsP _))⟩, trivial⟩⟩⟩⟩ (by decide)) ?_
 refine Cx.ef 2 rfl rfl (by decide) (ef_callc rfl rfl (by decide) rfl (w_DOf (l := [3, 2, 4, 1]) (by simp) (by simp)) ⟨ke rfl, ⟨_, rfl, full_le _ _⟩, trivial⟩) ?_
 refine ax ?_
 refine xo rfl (fun _ => ok_buildSlice (xs := [.const (.int .i64 (0)), .const (.int .i64 (5)), .const (.int .i64 (10))]) (rows := [[_], [_], [_]]) rfl rfl Try.underlying22 sz3 z3 rfl (by decide) ⟨⟨(by exact rfl), (VL.le (vl rfl) (one_cellsP _))⟩, ⟨⟨(by exact rfl), (VL.le (vl rfl) (one_cellsP _))⟩, ⟨⟨(by exact rfl), (VL.le (vl rfl) (one_cellsP _))⟩, trivial⟩⟩⟩ (by decide)) ?_
 refine Cx.ef 2 rfl rfl (by decide) (ef_callc rfl rfl (by decide) rfl (w_DOf (l := [0, 5, 10]) (by simp) (by simp)) ⟨ke rfl, ⟨_, rfl, full_le _ _⟩, trivial⟩) ?_
 refine xm rfl (xo rfl (fun _ => ok_buildSlice (xs := [.const (.int .i64 (1000)), .const (.int .i64 (100)), .const (.int .i64 (50)), .const (.int .i64 (20))]) (rows := [[_], [_], [_], [_]]) rfl rfl Try.underlying22 sz3 z3 rfl (by decide) ⟨⟨(by exact rfl), (VL.le (vl rfl) (one_cellsP _))⟩, ⟨⟨(by exact rfl), (VL.le (vl rfl) (one_cellsP _))⟩, ⟨⟨(by exact rfl), (VL.le (vl rfl) (one_cellsP _))⟩, ⟨⟨(by exact rfl), (VL.le (vl rfl) (one_cellsP _))⟩, trivial⟩⟩⟩⟩ (by decide)) ?_)
 refine Cx.ef 2 rfl rfl (by decide) (ef_callc rfl rfl (by decide) rfl (w_DOf (l := [1000, 100, 50, 20]) (by simp) (by simp)) ⟨ke rfl, ⟨_, rfl, full_le _ _⟩, trivial⟩) ?_
 refine xm rfl (xo rfl (fun _ => ok_build (qs := [int (s.val 1000), str iss, str su, int a, int c, int id, int (s.adv.of [3, 2, 4, 1]), int 0, int (s.adv.adv.of [0, 5, 10]), int (s.adv.adv.adv.of [1000, 100, 50, 20]), bool au, int 0, is (.slice none 0 0), int 0, int 0]) (rows := [(0, [_]), (1, [_]), (2, [_]), (3, _), (4, [_]), (5, _), (6, [_]), (7, [_]), (8, [_])]) rfl bl91 zo91 ⟨⟨rfl, (VL.le (vl rfl) (one_cellsP _))⟩, ⟨⟨rfl, (VL.le (vl rfl) (one_cellsP _))⟩, ⟨⟨rfl, (VL.le (vl rfl) (one_cellsP _))⟩, ⟨⟨rfl, (VL.le (vl rfl) (agg_cellsP _))⟩, ⟨⟨rfl, (VL.le (vl rfl) (one_cellsP _))⟩, ⟨⟨rfl, (VL.le (vl rfl) (agg_cellsP _))⟩, ⟨⟨rfl, (VL.le (vl rfl) (one_cellsP _))⟩, ⟨⟨rfl, (VL.le (vl rfl) (one_cellsP _))⟩, ⟨⟨rfl, (VL.le (vl rfl) (one_cellsP _))⟩, trivial⟩⟩⟩⟩⟩⟩⟩⟩⟩ (by kernel_rfl)) (Cx.ef 0 rfl rfl (by decide) (ef_allocX rfl rfl (by decide) rfl z91 zo91) (Cx.ef0 0 rfl rfl (ef_storeX rfl rfl rfl rfl (VL.le (vl rfl) (agg_cellsP _)) sz91 rfl rfl) ?_)))
 refine Cx.nil ⟨by kernel_rfl, ?_⟩
 refine FinX.open_ 0 15 rfl rfl (fun v1 => ?_)
 refine FinX.done al4 (Fin.opn 15 0 _ rfl rfl (fun _ => rfl) (fun b2 => ?_))
 refine Fin.go (wk6 0 2 5 6 14 15 rfl (Tr.seq (Tr.seq (Tr.eqC 0 [int (s.val 1000), str iss, str su, int a, int c, int id, int (s.adv.of [3, 2, 4, 1]), int 0, int (s.adv.adv.of [0, 5, 10]), int (s.adv.adv.adv.of [1000, 100, 50, 20]), bool au, int 0, is (.slice none 0 0), int 0, int 0] rfl (by kernel_rfl) ?_))))
 refine ac ?_
 refine Tr.cn rfl ?_ ?_ <;> intro h1 q1
 refine Tr.eqC 0 [int (s.val 1000), str iss, str su, int a, int c, int id, int (s.adv.of [3, 2, 4, 1]), int 0, int (s.adv.adv.of [0, 5, 10]), int (s.adv.adv.adv.of [1000, 100, 50, 20]), bool au, int 0, is (.slice none 0 0), int 0, int 0] rfl (by kernel_rfl) ?_
 refine ap ?_
 refine TO.efc 2 rfl rfl (by decide) (ef_callc rfl rfl (by decide) rfl (w_DOf (l := [3, 0, 1]) (by simp) (by simp)) ⟨ke rfl, ⟨_, rfl, full_le _ _⟩, trivial⟩) ?_
 refine ap ?_
 refine Tr.seq (Tr.eqC 0 [int (s.val 1000), str iss, str su, int a, int c, int id, int (s.adv.of [3, 2, 4, 1]), int 0, int (s.adv.adv.of [0, 5, 10]), int (s.adv.adv.adv.of [1000, 100, 50, 20]), bool au, int (s.adv.adv.adv.adv.of [3, 0, 1]), is (.slice none 0 0), int 0, int 0] rfl (by kernel_rfl) ?_)
 refine ap ?_
 refine wk5 0 2 5 14 15 rfl (Tr.seq (Tr.seq (Tr.eqC 0 [int (s.val 1000), str iss, str su, int a, int c, int id, int (s.adv.of [3, 2, 4, 1]), int 0, int (s.adv.adv.of [0, 5, 10]), int (s.adv.adv.adv.of [1000, 100, 50, 20]), bool au, int (s.adv.adv.adv.adv.of [3, 0, 1]), full 1 [[str su]], int 0, int 0] rfl (by kernel_rfl) ?_)))
 refine ap ?_
 refine TO.efc 2 rfl rfl (by decide) (ef_callc rfl rfl (by decide) rfl (w_DOne (by omega) (by omega)) ⟨ke rfl, ke rfl, trivial⟩) ?_
 refine ap ?_
 refine Tr.cn rfl ?_ ?_ <;> intro h2 q2
 refine Tr.eqC 0 [int (s.val 1000), str iss, str su, int a, int c, int id, int (s.adv.of [3, 2, 4, 1]), int 0, int (s.adv.adv.of [0, 5, 10]), int (s.adv.adv.adv.of [1000, 100, 50, 20]), bool au, int (s.adv.adv.adv.adv.of [3, 0, 1]), full 1 [[str su]], int 0, int 0] rfl (by kernel_rfl) ?_
 refine ap ?_
 refine tp rfl (ok_cat rfl (vl rfl) (vl rfl) (by have := named_len (nmsB_two hm.su).1; simp only [List.length_cons, List.length_nil]; unfold maxLen; omega)) ?_
 refine tp rfl (ok_buildSlice (xs := [.tmp 47]) (rows := [[_]]) rfl rfl Try.underlying62 sz9 z9 rfl (by decide) ⟨⟨(by exact rfl), (VL.le (vl rfl) (one_cellsP _))⟩, trivial⟩ (by decide)) ?_
 refine tp rfl (ok_appF rfl Try.underlying62 sz9 by9 z9 rfl (by decide) (vl rfl) ⟨_, rfl, full_le _ _⟩ (by simp only [List.length_append, List.length_cons, List.length_nil]; unfold maxLen; omega) (by simp only [List.length_append, List.length_cons, List.length_nil]; omega)) ?_
 refine ap ?_
 refine wk3 5 14 15 rfl (Tr.seq (Tr.eqC 0 [int (s.val 1000), str iss, str su, int a, int c, int id, int (s.adv.of [3, 2, 4, 1]), int 0, int (s.adv.adv.of [0, 5, 10]), int (s.adv.adv.adv.of [1000, 100, 50, 20]), bool au, int (s.adv.adv.adv.adv.of [3, 0, 1]), slice 1 ([[str su]] ++ [[str (su ++ [120])]]), int 0, int 0] rfl (by kernel_rfl) ?_))
 have hv : validB (sealed (crtM iss su a c id sg au (s.val 1000) (s.adv.of [3, 2, 4, 1]) (s.adv.adv.of [0, 5, 10]) (s.adv.adv.adv.of [1000, 100, 50, 20]) (s.adv.adv.adv.adv.of [3, 0, 1]) [su, su ++ [120]] 0 0) 0 0) = true := mk_valid hm hsr hh hfr hto hpa (.inl h1) (.inr rfl) (key := 0) (s := 0) (by omega) (by omega)
 have ht : (sealed (crtM iss su a c id sg au (s.val 1000) (s.adv.of [3, 2, 4, 1]) (s.adv.adv.of [0, 5, 10]) (s.adv.adv.adv.of [1000, 100, 50, 20]) (s.adv.adv.adv.adv.of [3, 0, 1]) [su, su ++ [120]] 0 0) 0 0).tiny := mk_tiny hm hsr hh
 refine Tr.reC 0 (rowCr (crtM iss su a c id sg au (s.val 1000) (s.adv.of [3, 2, 4, 1]) (s.adv.adv.of [0, 5, 10]) (s.adv.adv.adv.of [1000, 100, 50, 20]) (s.adv.adv.adv.adv.of [3, 0, 1]) [su, su ++ [120]] 0 0)) rfl ⟨Pr.le_refl _, Pr.le_refl _, Pr.le_refl _, Pr.le_refl _, Pr.le_refl _, Pr.le_refl _, Pr.le_refl _, Pr.le_refl _, Pr.le_refl _, Pr.le_refl _, Pr.le_refl _, Pr.le_refl _, Pr.le_refl _, Pr.le_refl _, Pr.le_refl _, trivial⟩ ?_
 refine ap ?_
 refine tp rfl (kc2 (w_R3Sign (key := sg) hv ht hsg) rfl rfl rfl) ?_
 refine TO.ex 54 rfl (fun z54 => TO.fact 54 rfl fun hz54 => ?_)
 refine ap ?_
 refine ap ?_
 refine Tr.drop 0 (Tr.ret (Fin.closeD 1 _ rfl rfl (Fin.retY1 [_] rfl (RVal.cell 0 rfl rfl agg91 sz91 rfl (Pr.le_refl _)) ?_ (fun _ _ _ _ => rfl))))
 · exact ex_in _ (fact_in (mk_valid hm hsr hh hfr hto hpa (.inl h1) (.inr rfl) hsg hz54) (Pr.le_refl _))
 refine ac ?_
 refine Tr.seq (Tr.eqC 0 [int (s.val 1000), str iss, str su, int a, int c, int id, int (s.adv.of [3, 2, 4, 1]), int 0, int (s.adv.adv.of [0, 5, 10]), int (s.adv.adv.adv.of [1000, 100, 50, 20]), bool au, int (s.adv.adv.adv.adv.of [3, 0, 1]), full 1 [[str su]], int 0, int 0] rfl (by kernel_rfl) ?_)
 have hv : validB (sealed (crtM iss su a c id sg au (s.val 1000) (s.adv.of [3, 2, 4, 1]) (s.adv.adv.of [0, 5, 10]) (s.adv.adv.adv.of [1000, 100, 50, 20]) (s.adv.adv.adv.adv.of [3, 0, 1]) [su] 0 0) 0 0) = true := mk_valid hm hsr hh hfr hto hpa (.inl h1) (.inl rfl) (key := 0) (s := 0) (by omega) (by omega)
 have ht : (sealed (crtM iss su a c id sg au (s.val 1000) (s.adv.of [3, 2, 4, 1]) (s.adv.adv.of [0, 5, 10]) (s.adv.adv.adv.of [1000, 100, 50, 20]) (s.adv.adv.adv.adv.of [3, 0, 1]) [su] 0 0) 0 0).tiny := mk_tiny hm hsr hh
 refine Tr.reC 0 (rowCr (crtM iss su a c id sg au (s.val 1000) (s.adv.of [3, 2, 4, 1]) (s.adv.adv.of [0, 5, 10]) (s.adv.adv.adv.of [1000, 100, 50, 20]) (s.adv.adv.adv.adv.of [3, 0, 1]) [su] 0 0)) rfl ⟨Pr.le_refl _, Pr.le_refl _, Pr.le_refl _, Pr.le_refl _, Pr.le_refl _, Pr.le_refl _, Pr.le_refl _, Pr.le_refl _, Pr.le_refl _, Pr.le_refl _, Pr.le_refl _, Pr.le_refl _, full_le _ _, Pr.le_refl _, Pr.le_refl _, trivial⟩ ?_
 refine ap ?_
 refine tp rfl (kc2 (w_R3Sign (key := sg) hv ht hsg) rfl rfl rfl) ?_
 refine TO.ex 54 rfl (fun z54 => TO.fact 54 rfl fun hz54 => ?_)
 refine ap ?_
 refine ap ?_
 refine Tr.drop 0 (wk1 14 rfl (Tr.ret (Fin.closeD 1 _ rfl rfl (Fin.retY1 [_] rfl (RVal.cell 0 rfl rfl agg91 sz91 rfl (Pr.le_refl _)) ?_ (fun _ _ _ _ => rfl)))))
 · exact ex_in _ (fact_in (mk_valid hm hsr hh hfr hto hpa (.inl h1) (.inl rfl) hsg hz54) (Pr.le_refl _))
 refine ac ?_
 refine Tr.seq (Tr.eqC 0 [int (s.val 1000), str iss, str su, int a, int c, int id, int (s.adv.of [3, 2, 4, 1]), int 0, int (s.adv.adv.of [0, 5, 10]), int (s.adv.adv.adv.of [1000, 100, 50, 20]), bool au, int 0, is (.slice none 0 0), int 0, int 0] rfl (by kernel_rfl) ?_)
 refine ap ?_
 refine Tr.seq (Tr.seq (Tr.eqC 0 [int (s.val 1000), str iss, str su, int a, int c, int id, int (s.adv.of [3, 2, 4, 1]), int 0, int (s.adv.adv.of [0, 5, 10]), int (s.adv.adv.adv.of [1000, 100, 50, 20]), bool au, int 0, full 1 [[str su]], int 0, int 0] rfl (by kernel_rfl) ?_))
 refine ap ?_
 refine TO.efc 2 rfl rfl (by decide) (ef_callc rfl rfl (by decide) rfl (w_DOne (by omega) (by omega)) ⟨ke rfl, ke rfl, trivial⟩) ?_
 refine ap ?_
 refine Tr.cn rfl ?_ ?_ <;> intro h3 q3
 refine Tr.eqC 0 [int (s.val 1000), str iss, str su, int a, int c, int id, int (s.adv.of [3, 2, 4, 1]), int 0, int (s.adv.adv.of [0, 5, 10]), int (s.adv.adv.adv.of [1000, 100, 50, 20]), bool au, int 0, full 1 [[str su]], int 0, int 0] rfl (by kernel_rfl) ?_
 refine ap ?_
 refine tp rfl (ok_cat rfl (vl rfl) (vl rfl) (by have := named_len (nmsB_two hm.su).1; simp only [List.length_cons, List.length_nil]; unfold maxLen; omega)) ?_
 refine tp rfl (ok_buildSlice (xs := [.tmp 47]) (rows := [[_]]) rfl rfl Try.underlying62 sz9 z9 rfl (by decide) ⟨⟨(by exact rfl), (VL.le (vl rfl) (one_cellsP _))⟩, trivial⟩ (by decide)) ?_
 refine tp rfl (ok_appF rfl Try.underlying62 sz9 by9 z9 rfl (by decide) (vl rfl) ⟨_, rfl, full_le _ _⟩ (by simp only [List.length_append, List.length_cons, List.length_nil]; unfold maxLen; omega) (by simp only [List.length_append, List.length_cons, List.length_nil]; omega)) ?_
 refine ap ?_
 refine wk3 5 14 15 rfl (Tr.seq (Tr.eqC 0 [int (s.val 1000), str iss, str su, int a, int c, int id, int (s.adv.of [3, 2, 4, 1]), int 0, int (s.adv.adv.of [0, 5, 10]), int (s.adv.adv.adv.of [1000, 100, 50, 20]), bool au, int 0, slice 1 ([[str su]] ++ [[str (su ++ [120])]]), int 0, int 0] rfl (by kernel_rfl) ?_))
 have hv : validB (sealed (crtM iss su a c id sg au (s.val 1000) (s.adv.of [3, 2, 4, 1]) (s.adv.adv.of [0, 5, 10]) (s.adv.adv.adv.of [1000, 100, 50, 20]) 0 [su, su ++ [120]] 0 0) 0 0) = true := mk_valid hm hsr hh hfr hto (pa := 0) (by omega) (.inr rfl) (.inr rfl) (key := 0) (s := 0) (by omega) (by omega)
 have ht : (sealed (crtM iss su a c id sg au (s.val 1000) (s.adv.of [3, 2, 4, 1]) (s.adv.adv.of [0, 5, 10]) (s.adv.adv.adv.of [1000, 100, 50, 20]) 0 [su, su ++ [120]] 0 0) 0 0).tiny := mk_tiny hm hsr hh
 refine Tr.reC 0 (rowCr (crtM iss su a c id sg au (s.val 1000) (s.adv.of [3, 2, 4, 1]) (s.adv.adv.of [0, 5, 10]) (s.adv.adv.adv.of [1000, 100, 50, 20]) 0 [su, su ++ [120]] 0 0)) rfl ⟨Pr.le_refl _, Pr.le_refl _, Pr.le_refl _, Pr.le_refl _, Pr.le_refl _, Pr.le_refl _, Pr.le_refl _, Pr.le_refl _, Pr.le_refl _, Pr.le_refl _, Pr.le_refl _, Pr.le_refl _, Pr.le_refl _, Pr.le_refl _, Pr.le_refl _, trivial⟩ ?_
 refine ap ?_
 refine tp rfl (kc2 (w_R3Sign (key := sg) hv ht hsg) rfl rfl rfl) ?_
 refine TO.ex 54 rfl (fun z54 => TO.fact 54 rfl fun hz54 => ?_)
 refine ap ?_
 refine ap ?_
 refine Tr.drop 0 (Tr.ret (Fin.closeD 1 _ rfl rfl (Fin.retY1 [_] rfl (RVal.cell 0 rfl rfl agg91 sz91 rfl (Pr.le_refl _)) ?_ (fun _ _ _ _ => rfl))))
 · exact ex_in _ (fact_in (mk_valid hm hsr hh hfr hto (pa := 0) (by omega) (.inr rfl) (.inr rfl) hsg hz54) (Pr.le_refl _))
 refine ac ?_
 refine Tr.seq (Tr.eqC 0 [int (s.val 1000), str iss, str su, int a, int c, int id, int (s.adv.of [3, 2, 4, 1]), int 0, int (s.adv.adv.of [0, 5, 10]), int (s.adv.adv.adv.of [1000, 100, 50, 20]), bool au, int 0, full 1 [[str su]], int 0, int 0] rfl (by kernel_rfl) ?_)
 have hv : validB (sealed (crtM iss su a c id sg au (s.val 1000) (s.adv.of [3, 2, 4, 1]) (s.adv.adv.of [0, 5, 10]) (s.adv.adv.adv.of [1000, 100, 50, 20]) 0 [su] 0 0) 0 0) = true := mk_valid hm hsr hh hfr hto (pa := 0) (by omega) (.inr rfl) (.inl rfl) (key := 0) (s := 0) (by omega) (by omega)
 have ht : (sealed (crtM iss su a c id sg au (s.val 1000) (s.adv.of [3, 2, 4, 1]) (s.adv.adv.of [0, 5, 10]) (s.adv.adv.adv.of [1000, 100, 50, 20]) 0 [su] 0 0) 0 0).tiny := mk_tiny hm hsr hh
 refine Tr.reC 0 (rowCr (crtM iss su a c id sg au (s.val 1000) (s.adv.of [3, 2, 4, 1]) (s.adv.adv.of [0, 5, 10]) (s.adv.adv.adv.of [1000, 100, 50, 20]) 0 [su] 0 0)) rfl ⟨Pr.le_refl _, Pr.le_refl _, Pr.le_refl _, Pr.le_refl _, Pr.le_refl _, Pr.le_refl _, Pr.le_refl _, Pr.le_refl _, Pr.le_refl _, Pr.le_refl _, Pr.le_refl _, Pr.le_refl _, full_le _ _, Pr.le_refl _, Pr.le_refl _, trivial⟩ ?_
 refine ap ?_
 refine tp rfl (kc2 (w_R3Sign (key := sg) hv ht hsg) rfl rfl rfl) ?_
 refine TO.ex 54 rfl (fun z54 => TO.fact 54 rfl fun hz54 => ?_)
 refine ap ?_
 refine wk2 14 15 rfl ?_
 refine ap ?_
 refine Tr.drop 0 (Tr.ret (Fin.closeD 1 _ rfl rfl (Fin.retY1 [_] rfl (RVal.cell 0 rfl rfl agg91 sz91 rfl (Pr.le_refl _)) ?_ (fun _ _ _ _ => rfl))))
 · exact ex_in _ (fact_in (mk_valid hm hsr hh hfr hto (pa := 0) (by omega) (.inr rfl) (.inl rfl) hsg hz54) (Pr.le_refl _))
end Go.Proofs.Ytflodcidhlmaaaa
namespace Go.Proofs.Ytflodcidhlmaaaa
open Go Go.RowKit Cp

abbrev chainE : Pr := Cp.ex fun l : List Crt => fact (l.length ≤ 3 ∧ ∀ c ∈ l, validB c = true) (certs l)
def subL : List (List UInt8) := [[99, 97], [99, 98], [99, 99]]
theorem sub_ok {su : List UInt8} (h : su ∈ subL) : namesB [su, su ++ [120]] = true := by
  unfold subL at h; simp at h; rcases h with rfl | rfl | rfl <;> decide +kernel
theorem key_rsa : ofB 5 2048 2 = true := by decide +kernel
theorem mkh_sub {iss su : List UInt8} {id sg : Int} (hi : named iss = true) (h : su ∈ subL) (hid : 0 ≤ id ∧ id ≤ 40000) (hsg : 0 ≤ sg ∧ sg ≤ 40000) : MkH iss su 5 2048 id sg := ⟨hi, sub_ok h, key_rsa, by omega, by omega, hid, hsg⟩
theorem w_mkChain {b : Nat} {s : DS} {nm : List UInt8} {a c id : Int} (hn : namesB [nm, nm ++ [120]] = true) (hk : ofB a c 2 = true) (ha : 0 ≤ a ∧ a ≤ 40000) (hc : 0 ≤ c ∧ c ≤ 40000) (hid : 0 ≤ id ∧ id ≤ 40000) : FunM Try.prog 35 [ptr b 0, str nm, agg [int a, int c], int id] (chainE) (diceS b s) (fun _ => diceEx 75 b) := by
 refine FunM.of Try.func35 rfl rfl (by exact Nat.le_of_ble_eq_true rfl) fun M0 w0 S rs M1 w1 => ?_
 have hof := s.of_mem (l := [1, 0, 2]) (by simp)
 simp at hof
 have hv1 := s.adv.val_in (n := 2) (by omega)
 refine Tr.seq (Tr.reg0 (co rfl (ok_box rfl (VL.le (vl rfl) (agg_cellsP _))) (cm rfl (Ch.nil (Fin.go (Tr.seq (Tr.regT (tm rfl (tp rfl (ok_buildSlice (xs := [.const (.int .i64 (1)), .const (.int .i64 (0)), .const (.int .i64 (2))]) (rows := [[_], [_], [_]]) rfl rfl Try.underlying22 sz3 z3 rfl (by decide) ⟨⟨(by exact rfl), (VL.le (vl rfl) (one_cellsP _))⟩, ⟨⟨(by exact rfl), (VL.le (vl rfl) (one_cellsP _))⟩, ⟨⟨(by exact rfl), (VL.le (vl rfl) (one_cellsP _))⟩, trivial⟩⟩⟩ (by decide)) ?_)))))))))
 refine TO.efc 0 rfl rfl (by decide) (ef_callc rfl rfl (by decide) rfl (w_DOf (l := [1, 0, 2]) (by simp) (by simp)) ⟨ke rfl, ⟨_, rfl, full_le _ _⟩, trivial⟩) ?_
 refine tm rfl (TO.nil (Fin.go (Tr.seq (Tr.regT (tm rfl (TO.efc 0 rfl rfl (by decide) (ef_callc rfl rfl (by decide) rfl (w_DNext (by omega) (by omega)) ⟨ke rfl, ke rfl, trivial⟩) ?_))))))
 refine tp rfl (ok_add rfl (vl rfl) (vl rfl) ?hin) ?_; case hin => unfold InI; omega
 refine tm rfl (tm rfl (TO.nil (Fin.go (Tr.seq (Tr.reg0 (cm rfl (Ch.nil (Fin.go (Tr.seq (Tr.seq (Tr.reg0 (cm rfl (Ch.nil (Fin.go ?_))))))))))))))
 refine Tr.block ?_
 refine Tr.loopD4V0 [(0, _), (1, _), (3, _), (6, _), (9, _)] ⟨ke rfl, ke rfl, ke rfl, ke rfl, ke rfl, trivial⟩ (fun (ab : List Crt) (sg : Int) (iss : List UInt8) (s2 : DS) => [(13, int ((ab.length : Nat) : Int)), (12, certs ab), (10, int sg), (11, str iss)]) (fun (ab : List Crt) (sg : Int) (iss : List UInt8) (s2 : DS) => Hp M0 w0 S (diceS b s2 :: extRes M1 w1 :: rs)) (fun (ab : List Crt) (sg : Int) (iss : List UInt8) (s2 : DS) => ab.length ≤ 2 ∧ (∀ c ∈ ab, validB c = true) ∧ named iss = true ∧ (0 ≤ sg ∧ sg ≤ 40000)) (fun (ab : List Crt) (sg : Int) (iss : List UInt8) (s2 : DS) => 2 - ab.length) ([]) (_) (_) (_)  (⟨by show 0 ≤ 2; omega, fun c h => by simp at h, by decide, by omega⟩) ⟨ke rfl, ⟨_, rfl, nil_slice 15⟩, ke rfl, ke rfl, trivial⟩ (fun _ _ h => h) ?_
 rintro ab sg iss s2  ⟨hk1, hk3, hiss, hsg⟩
 refine Tr.seq (Tr.seq (Tr.reg0 (cm rfl (cm rfl (co rfl (ki rfl rfl rfl rfl) (Ch.nil (Fin.go ?_)))))))
 refine Tr.cn rfl ?_ ?_ <;> intro h1 q1
 have hlt : ((ab.length : Nat) : Int) < s.of [1, 0, 2] := of_decide_eq_true h1
 obtain ⟨su, hsu⟩ := at_ (l := subL) (k := ab.length) (by show _ < 3; omega)
 refine Tr.skip (Fin.go (Tr.seq (Tr.block (Tr.seq (Tr.reg0 (co rfl (ok_buildSlice (xs := [.const (.string ⟨[99, 97].toArray⟩), .const (.string ⟨[99, 98].toArray⟩), .const (.string ⟨[99, 99].toArray⟩)]) (rows := [[_], [_], [_]]) rfl rfl Try.underlying62 sz9 z9 rfl (by decide) ⟨⟨(by exact rfl), (VL.le (vl rfl) (one_cellsP _))⟩, ⟨⟨(by exact rfl), (VL.le (vl rfl) (one_cellsP _))⟩, ⟨⟨(by exact rfl), (VL.le (vl rfl) (one_cellsP _))⟩, trivial⟩⟩⟩ (by decide)) ?_))))))
 refine cm rfl ?_
 refine co rfl (ok_indexAddr rfl Try.underlying62 sz9 ⟨_, rfl, full_le _ _⟩ (vl rfl) (by omega) (show (subL.map fun t => [str t])[_]? = _ from row_at hsu)) ?_
 refine co rfl (kl1 rfl one9 rfl) (cm rfl (Ch.nil (Fin.go (wk10 0 1 3 6 9 10 11 12 13 14 rfl (Tr.seq (Tr.regT (tm rfl (tm rfl (tm rfl (tp rfl (ok_build (rows := [(0, [_]), (1, [_])]) rfl bl51 zo51 ⟨⟨rfl, (VL.le (vl rfl) (one_cellsP _))⟩, ⟨⟨rfl, (VL.le (vl rfl) (one_cellsP _))⟩, trivial⟩⟩ rfl) (tm rfl ?_)))))))))))
 refine tp rfl (ok_add rfl (vl rfl) (vl rfl) ?hin) ?_; case hin => unfold InI; omega
 refine tm rfl ?_
 refine TO.efc 0 rfl rfl (by decide) (ef_callc rfl rfl (by decide) rfl (w_mkCert (mkh_sub hiss (List.mem_of_getElem? hsu) (by omega) hsg)) ⟨ke rfl, ke rfl, ke rfl, ke rfl, ke rfl, ke rfl, ke rfl, trivial⟩) ?_
 refine TO.ex 38 rfl (fun z1 => TO.fact 38 rfl fun hz1 => ?_)
 refine TO.alloc rfl rfl (by decide) rfl z91 zo91 (fun b1 => ?_)
 refine TO.store_all 0 rfl rfl rfl (vl rfl) (VL.le (vl rfl) (agg_cellsP _)) rfl sz91 rfl rfl (TO.freeze 0 15 rfl rfl (TO.nil (Fin.openD 0 rfl (fun s1 => ?_))))
 refine Fin.go (wk9 0 1 3 6 9 12 13 14 15 rfl (Tr.seq (Tr.reg0 (co rfl (ok_loadA rfl agg91 sz91 (vl rfl) rfl rfl) (co rfl (ok_buildSlice (xs := [.tmp 39]) (rows := [_]) rfl rfl Try.underlying53 sz91 z91 rfl (by decide) ⟨⟨(by exact rfl), (VL.le (vl rfl) (agg_cellsP _))⟩, trivial⟩ (by decide)) ?_)))))
 refine cm rfl ?_
 refine co rfl (ok_appF rfl Try.underlying53 sz91 by91 z91 rfl (by decide) (vl rfl) (vl rfl) (by simp only [List.length_map, List.length_cons, List.length_nil, List.length_append]; unfold maxLen; omega) (by simp only [List.length_map, List.length_cons, List.length_nil, List.length_append]; omega)) ?_
 refine cm rfl (Ch.nil (Fin.go (wk8 0 1 3 6 9 12 13 14 rfl (Tr.reg0 (cm rfl (cad rfl rfl rfl rfl (by omega) (cm rfl (cm rfl (cm rfl (Ch.nil (Fin.block (Fin.go (Tr.reg0 ?_)))))))))))))
 refine cm rfl (cad rfl rfl rfl rfl (by omega) (cm rfl (Ch.nil ?_)))
 exact Fin.famD4V0 (z1 :: ab) (11 + (ab.length : Nat)) (su) (_)  (⟨⟨by simp; omega, fun c hc => (List.mem_cons.1 hc).elim (fun h => h ▸ hz1) (hk3 c), (nmsB_two (sub_ok (List.mem_of_getElem? hsu))).1, by omega⟩, by simp; omega⟩) ⟨⟨_, rfl, int_succ ab.length⟩, ke rfl, ke rfl, ke rfl, ke rfl, ke rfl, ke rfl, ke rfl, ke rfl, trivial⟩ (fun _ _ h => h)
 
 refine Tr.exit (Fin.then_exit (Fin.then_exit (Fin.block_here (Fin.go (Tr.seq (Tr.regT (tm rfl (tm rfl (tm rfl (tp rfl (ok_loadA rfl agg51 sz51 (vl rfl) rfl rfl) (tm rfl (tm rfl (TO.efc 0 rfl rfl (by decide) (ef_callc rfl rfl (by decide) rfl (w_mkCert ⟨hiss, hn, hk, ha, hc, hid, hsg⟩) ⟨ke rfl, ke rfl, ke rfl, ke rfl, ke rfl, ke rfl, ke rfl, trivial⟩) ?_)))))))))))))
 refine TO.ex 52 rfl (fun z2 => TO.fact 52 rfl fun hz2 => ?_)
 refine tp rfl (ok_buildSlice (xs := [.tmp 52]) (rows := [_]) rfl rfl Try.underlying53 sz91 z91 rfl (by decide) ⟨⟨(by exact rfl), (VL.le (vl rfl) (agg_cellsP _))⟩, trivial⟩ (by decide)) ?_
 refine tm rfl ?_
 refine tp rfl (ok_appF rfl Try.underlying53 sz91 by91 z91 rfl (by decide) (vl rfl) (vl rfl) (by simp only [List.length_map, List.length_cons, List.length_nil, List.length_append]; unfold maxLen; omega) (by simp only [List.length_map, List.length_cons, List.length_nil, List.length_append]; omega)) ?_
 refine tm rfl (TO.nil (Fin.openD 0 rfl (fun s2 => ?_)))
 refine Fin.go (wk1 8 rfl (Tr.ret (Fin.closeD 0 _ rfl rfl (Fin.retY1 [] rfl (RVal.tmp rfl (Pr.le_refl _)) ?_ (fun _ _ _ _ => rfl)))))
 · exact ex_in (z2 :: ab) (fact_in ⟨by simp; omega, fun c hc => (List.mem_cons.1 hc).elim (fun h => h ▸ hz2) (hk3 c)⟩ (Pr.le_refl _))
end Go.Proofs.Ytflodcidhlmaaaa
namespace Go.Proofs.Ytflodcidhlmaaaa
open Go Go.RowKit Cp

theorem app_on {β : Type} {sz : Nat} {f : β → List Pr} {l : List β} {x : β} : slice sz ([] ++ l.map f ++ [f x]) = slice sz ((l ++ [x]).map f) := by rw [List.map_append]; rfl
structure OddP (e x : Ept) : Prop where
  sz : x.sz 2000
  same : x.name = e.name ∨ x.least = e.least
theorem word_mem {s : DS} {l : List (List UInt8)} (h : l ≠ []) : wordOf s l ∈ l := by
  have hl0 : 1 ≤ (l.length : Int) := by have := List.length_pos_iff.2 h; omega
  have hv := s.val_in hl0
  obtain ⟨x, hx⟩ := at_ (l := l) (k := (s.val l.length).toNat) (by omega)
  unfold wordOf; rw [hx]; exact List.mem_of_getElem? hx
theorem crt_fits {c : Crt} (h : validB c = true) : c.fits ∧ c.names.length ≤ 8 := by
  obtain ⟨_, _, hiss, hsub, hnm, _⟩ := vf_of h
  have h1 := named_len hiss; have h2 := named_len hsub
  unfold namesB at hnm; rw [Bool.and_eq_true] at hnm
  refine ⟨⟨by unfold maxLen; omega, by unfold maxLen; omega, fun t ht => ?_⟩, by simpa using hnm.2⟩
  obtain ⟨i, hi, rfl⟩ := List.mem_iff_getElem.1 ht
  have := allI_iff.1 hnm.1 i hi
  have := named_len (name_at this (List.getElem?_eq_getElem hi))
  unfold maxLen; omega
theorem chain_fs {l : List Crt} (h : l.length ≤ 3 ∧ ∀ c ∈ l, validB c = true) {a c id : Int} : (⟨a, c, id, l⟩ : Idn).fits ∧ (⟨a, c, id, l⟩ : Idn).small :=
  ⟨fun c hc => (crt_fits (h.2 c hc)).1, by show l.length ≤ _; omega, fun c hc => by have := (crt_fits (h.2 c hc)).2; omega⟩
theorem odd_snoc {e : Ept} {y : Idn} (hy : y.fits ∧ y.small) (hs : e.sz 1000) : OddP e { e with ids := e.ids ++ [y] } :=
  ⟨⟨hs.name, Nat.le_trans hs.suites (by omega), Nat.le_trans hs.anchors (by omega), Nat.le_trans hs.hashes (by omega), by show (e.ids ++ [y]).length ≤ _; have := hs.idl; simp; omega, fun x hx => by
    rcases List.mem_append.1 hx with hx | hx
    · exact hs.ids x hx
    · simp at hx; subst hx; exact hy⟩, .inl rfl⟩

theorem w_mkOdd {b : Nat} {s : DS} {e : Ept} (hs : e.sz 1000) (hm : 0 ≤ e.most ∧ e.most ≤ 1000) : FunM Try.prog 15 [ptr b 0, agg (rowEp e)] (Cp.ex fun x : Ept => fact (OddP e x) (agg (rowEp x))) (diceS b s) (fun _ => diceEx 75 b) := by
 refine FunM.of Try.func15 rfl rfl (by exact Nat.le_of_ble_eq_true rfl) fun M0 w0 S rs M1 w1 => ?_
 have hsu := hs.suites
 have hil := hs.idl
 have hv := s.val_in (n := 8) (by omega)
 have hwm := word_mem (s := s.adv) (l := [[], [97, 32, 98], [120]]) (by simp)
 have hwl : (wordOf s.adv [[], [97, 32, 98], [120]]).length ≤ 3 := by simp at hwm; rcases hwm with h | h | h <;> rw [h] <;> simp
 refine Tr.seq (Tr.regT ?_)
 refine TO.boxm rfl rfl (by decide) rfl (VL.le (vl rfl) (agg_cellsP _)) (fun b1 => ?_)
 refine TO.alloc rfl rfl (by decide) rfl z35 zo35 (fun b2 => ?_)
 refine TO.nil (Fin.go (Tr.seq (Tr.seq (Tr.regT (tm rfl (TO.efc 2 rfl rfl (by decide) (ef_callc rfl rfl (by decide) rfl (w_DNext (by omega) (by omega)) ⟨ke rfl, ke rfl, trivial⟩) (TO.nil (Fin.go (Tr.block (Tr.seq (Tr.reg0 (co rfl (ki rfl rfl rfl rfl) (cm rfl ?_)))))))))))))
 refine Ch.nil (Fin.go ?_)
 refine Tr.cn rfl ?_ ?_ <;> intro h1 q1
 refine Tr.regT (tm rfl (tp rfl (ok_buildSlice (xs := [.const (.string ⟨[].toArray⟩), .const (.string ⟨[97, 32, 98].toArray⟩), .const (.string ⟨[120].toArray⟩)]) (rows := [[_], [_], [_]]) rfl rfl Try.underlying62 sz9 z9 rfl (by decide) ⟨⟨(by exact rfl), (VL.le (vl rfl) (one_cellsP _))⟩, ⟨⟨(by exact rfl), (VL.le (vl rfl) (one_cellsP _))⟩, ⟨⟨(by exact rfl), (VL.le (vl rfl) (one_cellsP _))⟩, trivial⟩⟩⟩ (by decide)) ?_))
 refine TO.efc 2 rfl rfl (by decide) (ef_callc rfl rfl (by decide) rfl (w_DWordE (l := [[], [97, 32, 98], [120]]) (by simp) (by simp)) ⟨ke rfl, ⟨_, rfl, full_le _ _⟩, trivial⟩) ?_
 refine tp rfl (okp_fieldAddr rfl fo35_0 (vl rfl)) (TO.ef0 1 rfl rfl (ef_store rfl rfl (vl rfl) (VL.le (vl rfl) (one_cellsP _)) sz9 rfl (by exact Nat.le_of_ble_eq_true rfl) rfl) (TO.nil (Fin.block (Fin.go (Tr.seq (Tr.regT (TO.rd 1 rfl rfl rfl (by decide) (rd_loadA rfl agg35 sz35 (vl rfl) rfl rfl) (TO.store_all 0 rfl rfl rfl (vl rfl) (VL.le (vl rfl) (agg_cellsP _)) rfl sz35 rfl rfl (TO.nil (Fin.go (Tr.drop 1 (Tr.ret (Fin.closeD 1 _ rfl rfl (Fin.retY1 [_] rfl (RVal.cell 0 rfl rfl agg35 sz35 rfl (Pr.le_refl _)) ?_ (fun _ _ _ _ => rfl)))))))))))))))
 · exact ex_in { e with name := wordOf s.adv [[], [97, 32, 98], [120]] } (fact_in ⟨⟨(by show (wordOf _ _).length ≤ _; unfold maxLen; omega), Nat.le_trans hs.suites (by omega), Nat.le_trans hs.anchors (by omega), Nat.le_trans hs.hashes (by omega), Nat.le_trans hs.idl (by omega), hs.ids⟩, .inr rfl⟩ (Pr.le_refl _))
 refine Tr.seq (Tr.reg0 (co rfl (ki rfl rfl rfl rfl) (cm rfl (Ch.nil (Fin.go ?_)))))
 refine Tr.cn rfl ?_ ?_ <;> intro h2 q2
 refine Tr.regT (tm rfl (tp rfl (okp_fieldAddr rfl fo35_2 (vl rfl)) (TO.rd 1 rfl rfl rfl (by decide) (rd_load1 rfl one3 (vl rfl) rfl) ?_)))
 refine tp rfl (ok_add rfl (vl rfl) (vl rfl) ?hin) ?_; case hin => unfold InI; omega
 refine tp rfl (ok_buildSlice (xs := [.const (.int .i64 (0)), .const (.int .i64 (5)), .tmp 30]) (rows := [[_], [_], [_]]) rfl rfl Try.underlying22 sz3 z3 rfl (by decide) ⟨⟨(by exact rfl), (VL.le (vl rfl) (one_cellsP _))⟩, ⟨⟨(by exact rfl), (VL.le (vl rfl) (one_cellsP _))⟩, ⟨⟨(by exact rfl), (VL.le (vl rfl) (one_cellsP _))⟩, trivial⟩⟩⟩ (by decide)) ?_
 refine TO.efc 2 rfl rfl (by decide) (ef_callc rfl rfl (by decide) rfl (w_DOf (l := [0, 5, e.most + 1]) (by simp) (by simp)) ⟨ke rfl, ⟨_, rfl, full_le _ _⟩, trivial⟩) ?_
 refine tp rfl (okp_fieldAddr rfl fo35_1 (vl rfl)) (TO.ef0 1 rfl rfl (ef_store rfl rfl (vl rfl) (VL.le (vl rfl) (one_cellsP _)) sz3 rfl (by exact Nat.le_of_ble_eq_true rfl) rfl) (TO.nil (Fin.block (Fin.go (wk2 3 4 rfl (Tr.seq (Tr.regT (TO.rd 1 rfl rfl rfl (by decide) (rd_loadA rfl agg35 sz35 (vl rfl) rfl rfl) (TO.store_all 0 rfl rfl rfl (vl rfl) (VL.le (vl rfl) (agg_cellsP _)) rfl sz35 rfl rfl (TO.nil (Fin.go (Tr.drop 1 (Tr.ret (Fin.closeD 1 _ rfl rfl ?_))))))))))))))
 refine Fin.retY1 [_] rfl (RVal.cell 0 rfl rfl agg35 sz35 rfl (Pr.le_refl _)) ?_ (fun _ _ _ _ => rfl)
 · exact ex_in { e with least := s.adv.of [0, 5, e.most + 1] } (fact_in ⟨⟨hs.name, Nat.le_trans hs.suites (by omega), Nat.le_trans hs.anchors (by omega), Nat.le_trans hs.hashes (by omega), Nat.le_trans hs.idl (by omega), hs.ids⟩, .inl rfl⟩ (Pr.le_refl _))
 refine Tr.seq (Tr.reg0 (co rfl (ki rfl rfl rfl rfl) (cm rfl (Ch.nil (Fin.go ?_)))))
 refine Tr.cn rfl ?_ ?_ <;> intro h3 q3
 refine Tr.regT (tm rfl (tp rfl (ok_buildSlice (xs := [.const (.int .i64 (5)), .const (.int .i64 (0))]) (rows := [[_], [_]]) rfl rfl Try.underlying22 sz3 z3 rfl (by decide) ⟨⟨(by exact rfl), (VL.le (vl rfl) (one_cellsP _))⟩, ⟨⟨(by exact rfl), (VL.le (vl rfl) (one_cellsP _))⟩, trivial⟩⟩ (by decide)) ?_))
 refine TO.efc 2 rfl rfl (by decide) (ef_callc rfl rfl (by decide) rfl (w_DOf (l := [5, 0]) (by simp) (by simp)) ⟨ke rfl, ⟨_, rfl, full_le _ _⟩, trivial⟩) ?_
 refine tp rfl (okp_fieldAddr rfl fo35_2 (vl rfl)) (TO.ef0 1 rfl rfl (ef_store rfl rfl (vl rfl) (VL.le (vl rfl) (one_cellsP _)) sz3 rfl (by exact Nat.le_of_ble_eq_true rfl) rfl) (TO.nil (Fin.block (Fin.go (wk2 3 4 rfl (Tr.seq (Tr.regT (TO.rd 1 rfl rfl rfl (by decide) (rd_loadA rfl agg35 sz35 (vl rfl) rfl rfl) (TO.store_all 0 rfl rfl rfl (vl rfl) (VL.le (vl rfl) (agg_cellsP _)) rfl sz35 rfl rfl (TO.nil (Fin.go (Tr.drop 1 (Tr.ret (Fin.closeD 1 _ rfl rfl ?_))))))))))))))
 refine Fin.retY1 [_] rfl (RVal.cell 0 rfl rfl agg35 sz35 rfl (Pr.le_refl _)) ?_ (fun _ _ _ _ => rfl)
 · exact ex_in { e with most := s.adv.of [5, 0] } (fact_in ⟨⟨hs.name, Nat.le_trans hs.suites (by omega), Nat.le_trans hs.anchors (by omega), Nat.le_trans hs.hashes (by omega), Nat.le_trans hs.idl (by omega), hs.ids⟩, .inl rfl⟩ (Pr.le_refl _))
 refine Tr.seq (Tr.reg0 (co rfl (ki rfl rfl rfl rfl) (cm rfl (Ch.nil (Fin.go ?_)))))
 refine Tr.cn rfl ?_ ?_ <;> intro h4 q4
 refine Tr.regT (tp rfl (ok_buildSlice (xs := []) (rows := []) rfl rfl Try.underlying22 sz3 z3 rfl (by decide) trivial (by decide)) (tp rfl (okp_fieldAddr rfl fo35_3 (vl rfl)) (TO.rd 1 rfl rfl rfl (by decide) (rd_load1 rfl one22 (vl rfl) rfl) (TO.pad ?_))))
 refine TO.efs 0 rfl rfl (by decide) (ef_append rfl rfl (by decide) rfl Try.underlying22 sz3 by3 z3 rfl (by decide) ⟨_, rfl, full_le _ _⟩ (vl rfl) (by simp only [List.length_append, List.length_map, List.length_cons, List.length_nil]; unfold maxLen; omega) (by simp only [List.length_append, List.length_map, List.length_cons, List.length_nil]; omega) (appR_full (by exact List.Mem.head _) (vl rfl))) (fun v1 => ?_)
 refine tm rfl (tp rfl (ok_buildSlice (xs := [.const (.int .i64 (17)), .const (.int .i64 (0)), .const (.int .i64 (3)), .const (.int .i64 (3))]) (rows := [[_], [_], [_], [_]]) rfl rfl Try.underlying22 sz3 z3 rfl (by decide) ⟨⟨(by exact rfl), (VL.le (vl rfl) (one_cellsP _))⟩, ⟨⟨(by exact rfl), (VL.le (vl rfl) (one_cellsP _))⟩, ⟨⟨(by exact rfl), (VL.le (vl rfl) (one_cellsP _))⟩, ⟨⟨(by exact rfl), (VL.le (vl rfl) (one_cellsP _))⟩, trivial⟩⟩⟩⟩ (by decide)) ?_)
 refine TO.efc 3 rfl rfl (by decide) (ef_callc rfl rfl (by decide) rfl (w_DOf (l := [17, 0, 3, 3]) (by simp) (by simp)) ⟨ke rfl, ⟨_, rfl, full_le _ _⟩, trivial⟩) ?_
 refine tp rfl (ok_buildSlice (xs := [.tmp 48]) (rows := [[_]]) rfl rfl Try.underlying22 sz3 z3 rfl (by decide) ⟨⟨(by exact rfl), (VL.le (vl rfl) (one_cellsP _))⟩, trivial⟩ (by decide)) ?_
 refine TO.efs 0 rfl rfl (by decide) (ef_append rfl rfl (by decide) rfl Try.underlying22 sz3 by3 z3 rfl (by decide) ⟨_, rfl, andIs_le _ _⟩ ⟨_, rfl, full_le _ _⟩ (by simp only [List.length_append, List.length_map, List.length_cons, List.length_nil]; unfold maxLen; omega) (by simp only [List.length_append, List.length_map, List.length_cons, List.length_nil]; omega) (appR_is (by exact List.Mem.head _) ⟨_, rfl, andIs_is _ _⟩)) (fun v2 => ?_)
 refine tp rfl (okp_fieldAddr rfl fo35_3 (vl rfl)) (TO.ef0 2 rfl rfl (ef_store rfl rfl (vl rfl) (VL.le (vl rfl) (one_cellsP _)) sz22 rfl (by exact Nat.le_of_ble_eq_true rfl) rfl) (TO.nil (Fin.block (Fin.go (wk2 3 4 rfl (Tr.seq (Tr.regT (TO.rd 2 rfl rfl rfl (by decide) (rd_loadA rfl agg35 sz35 (vl rfl) rfl rfl) (TO.store_all 1 rfl rfl rfl (vl rfl) (VL.le (vl rfl) (agg_cellsP _)) rfl sz35 rfl rfl (TO.nil (Fin.go (Tr.drop 2 (Tr.ret (Fin.closeD 2 _ rfl rfl ?_))))))))))))))
 refine Fin.retY1 [_, _] rfl (RVal.cell 1 rfl rfl agg35 sz35 rfl (Pr.le_refl _)) ?_ (fun _ _ _ _ => rfl)
 · exact ex_in { e with suites := e.suites ++ [s.adv.of [17, 0, 3, 3]] } (fact_in ⟨⟨hs.name, (by show (e.suites ++ [_]).length ≤ _; simp; omega), Nat.le_trans hs.anchors (by omega), Nat.le_trans hs.hashes (by omega), Nat.le_trans hs.idl (by omega), hs.ids⟩, .inl rfl⟩ (agg_le ⟨Pr.le_refl _, Pr.le_refl _, Pr.le_refl _, Pr.le_trans (andIs_le _ _) (Pr.le_of_eq (app_on (f := fun n : Int => [int n]))), Pr.le_refl _, Pr.le_refl _, Pr.le_refl _, Pr.le_refl _, Pr.le_refl _, trivial⟩))
 refine Tr.seq (Tr.reg0 (co rfl (ki rfl rfl rfl rfl) (cm rfl (Ch.nil (Fin.go (wk5 0 3 4 6 52 rfl ?_))))))
 refine Tr.cn rfl ?_ ?_ <;> intro h5 q5
 refine Tr.regT (tp rfl (ok_buildSlice (xs := [.const (.int .i64 (2)), .const (.int .i64 (1))]) (rows := [[_], [_]]) rfl rfl Try.underlying22 sz3 z3 rfl (by decide) ⟨⟨(by exact rfl), (VL.le (vl rfl) (one_cellsP _))⟩, ⟨⟨(by exact rfl), (VL.le (vl rfl) (one_cellsP _))⟩, trivial⟩⟩ (by decide)) ?_)
 refine tp rfl (okp_fieldAddr rfl fo35_6 (vl rfl)) (TO.ef0 1 rfl rfl (ef_store rfl rfl (vl rfl) (VL.le (vl rfl) (one_cellsP _)) sz22 rfl (by exact Nat.le_of_ble_eq_true rfl) rfl) (TO.nil (Fin.block (Fin.go (Tr.seq (Tr.regT (TO.rd 1 rfl rfl rfl (by decide) (rd_loadA rfl agg35 sz35 (vl rfl) rfl rfl) (TO.store_all 0 rfl rfl rfl (vl rfl) (VL.le (vl rfl) (agg_cellsP _)) rfl sz35 rfl rfl (TO.nil (Fin.go (Tr.drop 1 (Tr.ret (Fin.closeD 1 _ rfl rfl (Fin.retY1 [_] rfl (RVal.cell 0 rfl rfl agg35 sz35 rfl (Pr.le_refl _)) ?_ (fun _ _ _ _ => rfl)))))))))))))))
 · exact ex_in { e with anchors := [2, 1] } (fact_in ⟨⟨hs.name, Nat.le_trans hs.suites (by omega), (by show 2 ≤ _; omega), Nat.le_trans hs.hashes (by omega), Nat.le_trans hs.idl (by omega), hs.ids⟩, .inl rfl⟩ (agg_le ⟨Pr.le_refl _, Pr.le_refl _, Pr.le_refl _, Pr.le_refl _, Pr.le_refl _, Pr.le_refl _, full_le _ _, Pr.le_refl _, Pr.le_refl _, trivial⟩))
 refine Tr.seq (Tr.reg0 (co rfl (ki rfl rfl rfl rfl) (cm rfl (Ch.nil (Fin.go ?_)))))
 refine Tr.cn rfl ?_ ?_ <;> intro h6 q6
 refine Tr.regT (tm rfl (tp rfl (ok_buildSlice (xs := [.const (.int .i64 (5)), .const (.int .i64 (3)), .const (.int .i64 (0))]) (rows := [[_], [_], [_]]) rfl rfl Try.underlying22 sz3 z3 rfl (by decide) ⟨⟨(by exact rfl), (VL.le (vl rfl) (one_cellsP _))⟩, ⟨⟨(by exact rfl), (VL.le (vl rfl) (one_cellsP _))⟩, ⟨⟨(by exact rfl), (VL.le (vl rfl) (one_cellsP _))⟩, trivial⟩⟩⟩ (by decide)) ?_))
 refine TO.efc 2 rfl rfl (by decide) (ef_callc rfl rfl (by decide) rfl (w_DOf (l := [5, 3, 0]) (by simp) (by simp)) ⟨ke rfl, ⟨_, rfl, full_le _ _⟩, trivial⟩) ?_
 refine tp rfl (ok_buildSlice (xs := [.tmp 60]) (rows := [[_]]) rfl rfl Try.underlying22 sz3 z3 rfl (by decide) ⟨⟨(by exact rfl), (VL.le (vl rfl) (one_cellsP _))⟩, trivial⟩ (by decide)) ?_
 refine tp rfl (okp_fieldAddr rfl fo35_7 (vl rfl)) (TO.ef0 1 rfl rfl (ef_store rfl rfl (vl rfl) (VL.le (vl rfl) (one_cellsP _)) sz22 rfl (by exact Nat.le_of_ble_eq_true rfl) rfl) (TO.nil (Fin.block (Fin.go (Tr.seq (Tr.regT (TO.rd 1 rfl rfl rfl (by decide) (rd_loadA rfl agg35 sz35 (vl rfl) rfl rfl) (TO.store_all 0 rfl rfl rfl (vl rfl) (VL.le (vl rfl) (agg_cellsP _)) rfl sz35 rfl rfl (TO.nil (Fin.go (Tr.drop 1 (Tr.ret (Fin.closeD 1 _ rfl rfl (Fin.retY1 [_] rfl (RVal.cell 0 rfl rfl agg35 sz35 rfl (Pr.le_refl _)) ?_ (fun _ _ _ _ => rfl)))))))))))))))
 · exact ex_in { e with hashes := [s.adv.of [5, 3, 0]] } (fact_in ⟨⟨hs.name, Nat.le_trans hs.suites (by omega), Nat.le_trans hs.anchors (by omega), (by show 1 ≤ _; omega), Nat.le_trans hs.idl (by omega), hs.ids⟩, .inl rfl⟩ (agg_le ⟨Pr.le_refl _, Pr.le_refl _, Pr.le_refl _, Pr.le_refl _, Pr.le_refl _, Pr.le_refl _, Pr.le_refl _, full_le _ _, Pr.le_refl _, trivial⟩))
 refine Tr.seq (Tr.reg0 (co rfl (ki rfl rfl rfl rfl) (cm rfl (Ch.nil (Fin.go ?_)))))
 refine Tr.cn rfl ?_ ?_ <;> intro h7 q7
 refine Tr.regT (tp rfl (ok_buildSlice (xs := []) (rows := []) rfl rfl Try.underlying33 sz55 z55 rfl (by decide) trivial (by decide)) (tp rfl (okp_fieldAddr rfl fo35_5 (vl rfl)) (TO.rd 1 rfl rfl rfl (by decide) (rd_load1 rfl one33 (vl rfl) rfl) (TO.pad ?_))))
 refine TO.efs 0 rfl rfl (by decide) (ef_append rfl rfl (by decide) rfl Try.underlying33 sz55 by55 z55 rfl (by decide) ⟨_, rfl, full_le _ _⟩ (vl rfl) (by simp only [List.length_append, List.length_map, List.length_cons, List.length_nil]; unfold maxLen; omega) (by simp only [List.length_append, List.length_map, List.length_cons, List.length_nil]; omega) (appR_full (by exact List.Mem.head _) (vl rfl))) (fun v3 => ?_)
 refine tp rfl (ok_build (rows := [(0, [_])]) rfl bl51 zo51 ⟨⟨rfl, (VL.le (vl rfl) (one_cellsP _))⟩, trivial⟩ rfl) (tp rfl (ok_build (rows := [(0, _)]) rfl bl55 zo55 ⟨⟨rfl, (VL.le (vl rfl) (agg_cellsP _))⟩, trivial⟩ rfl) (tp rfl (ok_buildSlice (xs := [.tmp 70]) (rows := [rowId ⟨1, 0, 0, []⟩]) rfl rfl Try.underlying33 sz55 z55 rfl (by decide) ⟨⟨(by exact rfl), VL.le (vl rfl) (Pr.le_trans (agg_le (qs := rowId ⟨1, 0, 0, []⟩) ⟨Pr.le_refl _, Pr.le_refl _, Pr.le_refl _, nil_slice 15, trivial⟩) (agg_cellsP _))⟩, trivial⟩ (by decide)) ?_))
 refine TO.efs 0 rfl rfl (by decide) (ef_append rfl rfl (by decide) rfl Try.underlying33 sz55 by55 z55 rfl (by decide) ⟨_, rfl, andIs_le _ _⟩ ⟨_, rfl, full_le _ _⟩ (by simp only [List.length_append, List.length_map, List.length_cons, List.length_nil]; unfold maxLen; omega) (by simp only [List.length_append, List.length_map, List.length_cons, List.length_nil]; omega) (appR_is (by exact List.Mem.head _) ⟨_, rfl, andIs_is _ _⟩)) (fun v4 => ?_)
 refine tp rfl (okp_fieldAddr rfl fo35_5 (vl rfl)) (TO.ef0 2 rfl rfl (ef_store rfl rfl (vl rfl) (VL.le (vl rfl) (one_cellsP _)) sz33 rfl (by exact Nat.le_of_ble_eq_true rfl) rfl) (TO.nil (Fin.block (Fin.go (wk2 3 4 rfl (Tr.seq (Tr.regT (TO.rd 2 rfl rfl rfl (by decide) (rd_loadA rfl agg35 sz35 (vl rfl) rfl rfl) (TO.store_all 1 rfl rfl rfl (vl rfl) (VL.le (vl rfl) (agg_cellsP _)) rfl sz35 rfl rfl (TO.nil (Fin.go (Tr.drop 2 (Tr.ret (Fin.closeD 2 _ rfl rfl ?_))))))))))))))
 refine Fin.retY1 [_, _] rfl (RVal.cell 1 rfl rfl agg35 sz35 rfl (Pr.le_refl _)) ?_ (fun _ _ _ _ => rfl)
 · exact ex_in { e with ids := e.ids ++ [⟨1, 0, 0, []⟩] } (fact_in (odd_snoc (chain_fs ⟨by simp, fun c h => by simp at h⟩) hs) (agg_le ⟨Pr.le_refl _, Pr.le_refl _, Pr.le_refl _, Pr.le_refl _, Pr.le_refl _, Pr.le_trans (andIs_le _ _) (Pr.le_of_eq (app_on (f := rowId))), Pr.le_refl _, Pr.le_refl _, Pr.le_refl _, trivial⟩))
 refine Tr.regT (tp rfl (ok_buildSlice (xs := []) (rows := []) rfl rfl Try.underlying33 sz55 z55 rfl (by decide) trivial (by decide)) (tp rfl (okp_fieldAddr rfl fo35_5 (vl rfl)) (TO.rd 1 rfl rfl rfl (by decide) (rd_load1 rfl one33 (vl rfl) rfl) (TO.pad ?_))))
 refine TO.efs 0 rfl rfl (by decide) (ef_append rfl rfl (by decide) rfl Try.underlying33 sz55 by55 z55 rfl (by decide) ⟨_, rfl, full_le _ _⟩ (vl rfl) (by simp only [List.length_append, List.length_map, List.length_cons, List.length_nil]; unfold maxLen; omega) (by simp only [List.length_append, List.length_map, List.length_cons, List.length_nil]; omega) (appR_full (by exact List.Mem.head _) (vl rfl))) (fun v5 => ?_)
 refine tp rfl (ok_build (rows := [(0, [_]), (1, [_])]) rfl bl51 zo51 ⟨⟨rfl, (VL.le (vl rfl) (one_cellsP _))⟩, ⟨⟨rfl, (VL.le (vl rfl) (one_cellsP _))⟩, trivial⟩⟩ rfl) (tm rfl (tp rfl (ok_build (rows := [(0, [_]), (1, [_])]) rfl bl51 zo51 ⟨⟨rfl, (VL.le (vl rfl) (one_cellsP _))⟩, ⟨⟨rfl, (VL.le (vl rfl) (one_cellsP _))⟩, trivial⟩⟩ rfl) (TO.efc 3 rfl rfl (by decide) (ef_callc rfl rfl (by decide) rfl (w_mkChain (by decide +kernel) key_rsa (by omega) (by omega) (by omega)) ⟨ke rfl, ke rfl, ke rfl, ke rfl, trivial⟩) ?_)))
 refine TO.ex 14 rfl (fun z1 => TO.fact 14 rfl fun hz1 => ?_)
 refine tp rfl (ok_build (rows := [(0, _), (1, [_]), (2, [_])]) rfl bl55 zo55 ⟨⟨rfl, (VL.le (vl rfl) (agg_cellsP _))⟩, ⟨⟨rfl, (VL.le (vl rfl) (one_cellsP _))⟩, ⟨⟨rfl, (VL.le (vl rfl) (one_cellsP _))⟩, trivial⟩⟩⟩ rfl) (tp rfl (ok_buildSlice (xs := [.tmp 15]) (rows := [rowId ⟨5, 2048, 7, z1⟩]) rfl rfl Try.underlying33 sz55 z55 rfl (by decide) ⟨⟨(by exact rfl), VL.le (vl rfl) (Pr.le_trans (Pr.le_of_eq (show agg _ = agg (rowId ⟨5, 2048, 7, z1⟩) from rfl)) (agg_cellsP _))⟩, trivial⟩ (by decide)) ?_)
 refine TO.efs 0 rfl rfl (by decide) (ef_append rfl rfl (by decide) rfl Try.underlying33 sz55 by55 z55 rfl (by decide) ⟨_, rfl, andIs_le _ _⟩ ⟨_, rfl, full_le _ _⟩ (by simp only [List.length_append, List.length_map, List.length_cons, List.length_nil]; unfold maxLen; omega) (by simp only [List.length_append, List.length_map, List.length_cons, List.length_nil]; omega) (appR_is (by exact List.Mem.head _) ⟨_, rfl, andIs_is _ _⟩)) (fun v6 => ?_)
 refine tp rfl (okp_fieldAddr rfl fo35_5 (vl rfl)) (TO.ef0 2 rfl rfl (ef_store rfl rfl (vl rfl) (VL.le (vl rfl) (one_cellsP _)) sz33 rfl (by exact Nat.le_of_ble_eq_true rfl) rfl) (TO.nil (Fin.openD 3 rfl (fun s1 => ?_))))
 refine Fin.block (Fin.go (wk2 3 4 rfl (Tr.seq (Tr.regT (TO.rd 2 rfl rfl rfl (by decide) (rd_loadA rfl agg35 sz35 (vl rfl) rfl rfl) (TO.store_all 1 rfl rfl rfl (vl rfl) (VL.le (vl rfl) (agg_cellsP _)) rfl sz35 rfl rfl (TO.nil (Fin.go (Tr.drop 2 (Tr.ret (Fin.closeD 2 _ rfl rfl (Fin.retY1 [_, _] rfl (RVal.cell 1 rfl rfl agg35 sz35 rfl (Pr.le_refl _)) ?_ (fun _ _ _ _ => rfl)))))))))))))
 · exact ex_in { e with ids := e.ids ++ [⟨5, 2048, 7, z1⟩] } (fact_in (odd_snoc (chain_fs hz1) hs) (agg_le ⟨Pr.le_refl _, Pr.le_refl _, Pr.le_refl _, Pr.le_refl _, Pr.le_refl _, Pr.le_trans (andIs_le _ _) (Pr.le_of_eq (app_on (f := rowId))), Pr.le_refl _, Pr.le_refl _, Pr.le_refl _, trivial⟩))
end Go.Proofs.Ytflodcidhlmaaaa
namespace Go.Proofs.Ytflodcidhlmaaaa
open Go Go.RowKit Cp Go.ChangeShapes Go.WideShapes Go.ChangeAt

abbrev nmE (s : List UInt8) : Ept := { zeroEp with name := s }
theorem odd_bad {x : Ept} (h : OddP zeroEp x) : eptB x = false := by
  rw [← Bool.not_eq_true, eptB_iff]
  rintro ⟨h1, h2, _⟩
  rcases h.same with h3 | h3
  · rw [h3] at h1; exact absurd h1 (by decide)
  · rw [h3] at h2; exact absurd h2 (by decide)
theorem nmE_bad (s : List UInt8) : eptB (nmE s) = false := by
  rw [← Bool.not_eq_true, eptB_iff]
  rintro ⟨h1, h2, _⟩
  exact absurd (show (1 : Int) ≤ 0 from h2) (by decide)
theorem ep0_sz : zeroEp.sz 1000 := ⟨by show 0 ≤ _; omega, by show 0 ≤ _; omega, by show 0 ≤ _; omega, by show 0 ≤ _; omega, by show 0 ≤ _; omega, fun x hx => by cases hx⟩
theorem w_tryRef {e x : Ept} {k f : Int} (he : e.sz 2000) (hx : x.sz 2000) (hf : (eptB x = false ∧ f = 19) ∨ (eptB x = true ∧ x.name ≠ e.name ∧ f = 14) ∨ (eptB x = true ∧ x.name = e.name ∧ ¬ (0 ≤ k ∧ k ≤ 3) ∧ f = 2)) : Fun Try.prog 11 [agg (rowH ⟨e, []⟩), agg (rowEp x), int k] (tup [agg (rowH ⟨e, []⟩), bool false, int f]) := by
  have h := w_HTry (h := ⟨e, []⟩) (to_ := x) (k := k) (hs0 (he.small (by omega))) (by show 0 ≤ _; omega) hx.fits (hx.small (by omega))
  have ht : tryH ⟨e, []⟩ x k = (⟨e, []⟩, false, f) := by
    unfold tryH
    rcases hf with ⟨h1, rfl⟩ | ⟨h1, h2, rfl⟩ | ⟨h1, h2, h3, rfl⟩
    · rw [if_pos (by simp [h1])]
    · rw [if_neg (by simp [h1]), if_pos h2]
    · rw [if_neg (by simp [h1]), if_neg (by simp [h2]), if_pos h3]
  rw [ht] at h; exact h

theorem w_HostNames {t : List Int} {n : Int}  : Fun Try.prog 4 [ints t, int n] (bool true) := by
 refine Fun.of Try.func4 rfl rfl (by exact Nat.le_of_ble_eq_true rfl) fun M0 w0 => ?_
 refine Tr.seq (Tr.reg0 (cm rfl (Ch.nil (Fin.go (Tr.seq (Tr.seq (Tr.reg0 (cm rfl (co rfl (ok_call rfl (w_Light) ⟨ke rfl, trivial⟩) (co rfl (ok_not rfl (vl rfl)) (Ch.nil (Fin.go ?_))))))))))))
 refine Tr.cn rfl ?_ ?_ <;> intro h1 q1
 refine Tr.seq (Tr.reg0 (co rfl (ok_call rfl (w_awake36) trivial) (cm rfl (Ch.nil (Fin.go (Tr.ret (Fin.then_ret (Fin.ret1 rfl (OutW.bse _ _) rfl ?_))))))))
 · exact Pr.le_refl _
 have ht4 : t.length ≤ 400 := by simpa using h1
 have ht9 : t.length ≤ 1000000000 := by omega
 refine Tr.skip (Fin.go (Tr.seq (Tr.regT (tm rfl (TO.pad ?_)))))
 refine TO.efs 0 rfl rfl (by decide) (ef_call rfl rfl (by decide) rfl (w_Roll (l := t) ht9) ⟨ke rfl, trivial⟩) (fun v1 => ?_)
 refine TO.opn 25 0 _ rfl rfl (fun _ => rfl) (fun b1 => ?_)
 refine tm rfl (TO.nil (Fin.go (Tr.seq (Tr.regT (tm rfl (TO.efc 0 rfl rfl (by decide) (ef_callc rfl rfl (by decide) rfl (w_Sound) ⟨ke rfl, trivial⟩) ?_))))))
 refine TO.ex 27 rfl (fun z1 => TO.fact 27 rfl fun hz1 => ?_)
 obtain ⟨e, he0⟩ := at_ (l := z1) (k := 0) (by omega)
 obtain ⟨y, hy0⟩ := at_ (l := z1) (k := 1) (by omega)
 have hse : SndE 0 e := hz1.2 0 e he0
 have hsy : SndE 1 y := hz1.2 1 y hy0
 have he := (sndE_sz hse).le (m := 2000) (by omega)
 have hy := (sndE_sz hsy).le (m := 2000) (by omega)
 have hce := eptB_iff.2 (sndE_ok hse)
 have hcy := eptB_iff.2 (sndE_ok hsy)
 have hnn : y.name ≠ e.name := by have h1 := hse.name; have h2 := hsy.name; intro h; rw [h] at h2; rw [← h1] at h2; exact absurd h2 (by decide)
 refine TO.alloc rfl rfl (by decide) rfl z29 zo29 (fun b2 => ?_)
 refine TO.store_all 0 rfl rfl rfl (vl rfl) (VL.le (vl rfl) (agg_cellsP _)) rfl sz29 rfl rfl (TO.freeze 0 6 rfl rfl (TO.nil (Fin.openD 0 rfl (fun s1 => ?_))))
 refine Fin.go (Tr.seq (Tr.regT (tp rfl (kfa rfl fo29_0 rfl rfl) (tp rfl (kl1 rfl one25 rfl) (tp rfl (ok_indexAddr rfl Try.underlying25 sz35 (vl rfl) (vl rfl) (by omega) (row_atI (f := rowEp) (i := 0) he0)) (tp rfl (ok_loadA rfl agg35 sz35 (vl rfl) rfl rfl) (tp rfl (ok_call rfl (w_HNewY he.fits (he.small (by omega)) hce) ⟨ke rfl, trivial⟩) (tm rfl (tp rfl (ok_extract rfl (vl rfl) rfl) (tp rfl (ok_extract rfl (vl rfl) rfl) ?_))))))))))
 refine TO.alloc rfl rfl (by decide) rfl z37 zo37 (fun b3 => ?_)
 refine TO.store_all 0 rfl rfl rfl (vl rfl) (VL.le (vl rfl) (agg_cellsP _)) rfl sz37 rfl rfl (TO.freeze 0 7 rfl rfl (tm rfl (TO.nil (Fin.go (wk5 1 5 6 7 8 rfl (Tr.seq (Tr.pad (Tr.regX mixed [none, none, none, none, none, none, none, none, none, none, none, none, some (0, 0, true, 9), some (9, 0, true, 9), none, none] (by kernel_rfl) (xo rfl (fun _ => ok_loadA rfl agg37 sz37 (vl rfl) rfl rfl) (xo rfl (fun _ => kfa rfl fo29_0 rfl rfl) (xo rfl (fun _ => kl1 rfl one25 rfl) (xo rfl (fun _ => ok_indexAddr rfl Try.underlying25 sz35 (vl rfl) (vl rfl) (by omega) (row_atI (f := rowEp) (i := 1) hy0)) (xo rfl (fun _ => ok_loadA rfl agg35 sz35 (vl rfl) rfl rfl) ?_)))))))))))))
 refine xm rfl (xo rfl (fun _ => ok_call rfl (w_Mod (by omega) (by omega)) ⟨ke rfl, ke rfl, trivial⟩) (xo rfl (fun _ => ok_call rfl (w_tryRef (e := e) (x := y) (f := 14) he hy (.inr (.inl ⟨hcy, hnn, rfl⟩))) ⟨ke rfl, ke rfl, ke rfl, trivial⟩) (xm rfl (xo rfl (fun _ => ok_extract rfl (vl rfl) rfl) (xo rfl (fun _ => ok_extract rfl (vl rfl) rfl) (xo rfl (fun _ => ok_extract rfl (vl rfl) rfl) (Cx.ef 0 rfl rfl (by decide) (ef_allocX rfl rfl (by decide) rfl z37 zo37) (Cx.ef0 0 rfl rfl (ef_storeX rfl rfl rfl rfl (VL.le (vl rfl) (agg_cellsP _)) sz37 rfl rfl) (xm rfl (xm rfl ?_))))))))))
 refine Cx.nil ⟨rfl, ?_⟩
 refine FinX.open_ 0 9 rfl rfl (fun v2 => ?_)
 refine FinX.done (AllC.cons (AllC.cons (AllC.map _))) (Fin.opn 9 0 _ rfl rfl (fun _ => rfl) (fun b4 => ?_))
 refine Fin.go (wk8 1 5 6 7 8 9 10 11 rfl (Tr.seq (Tr.pad (Tr.regX mixed [none, none, none, none, none, none, none, none, none, none, none, none, some (0, 0, true, 12), some (12, 0, true, 12), none, none] (by kernel_rfl) (xo rfl (fun _ => ok_loadA rfl agg37 sz37 (vl rfl) rfl rfl) (xo rfl (fun _ => kfa rfl fo29_0 rfl rfl) (xo rfl (fun _ => kl1 rfl one25 rfl) (xo rfl (fun _ => ok_indexAddr rfl Try.underlying25 sz35 (vl rfl) (vl rfl) (by omega) (row_atI (f := rowEp) (i := 0) he0)) (xo rfl (fun _ => kfa rfl fo35_0 rfl rfl) (xo rfl (fun _ => kl1 rfl one9 rfl) (xo rfl (fun _ => ok_build (rows := [(0, [_])]) rfl bl35 zo35 ⟨⟨rfl, (VL.le (vl rfl) (one_cellsP _))⟩, trivial⟩ rfl) ?_)))))))))))
 refine xo rfl (fun _ => ok_call rfl (w_tryRef (e := e) (x := nmE e.name) (f := 19) he ⟨he.name, by show 0 ≤ _; omega, by show 0 ≤ _; omega, by show 0 ≤ _; omega, by show 0 ≤ _; omega, fun x hx => by cases hx⟩ (.inl ⟨nmE_bad _, rfl⟩)) ⟨ke rfl, ⟨_, rfl, agg_le ⟨Pr.le_refl _, Pr.le_refl _, Pr.le_refl _, nil_slice 1, Pr.le_refl _, nil_slice 4, nil_slice 1, nil_slice 1, Pr.le_refl _, trivial⟩⟩, ke rfl, trivial⟩) ?_
 refine xm rfl (xo rfl (fun _ => ok_extract rfl (vl rfl) rfl) (xo rfl (fun _ => ok_extract rfl (vl rfl) rfl) (xo rfl (fun _ => ok_extract rfl (vl rfl) rfl) (Cx.ef 0 rfl rfl (by decide) (ef_allocX rfl rfl (by decide) rfl z37 zo37) (Cx.ef0 0 rfl rfl (ef_storeX rfl rfl rfl rfl (VL.le (vl rfl) (agg_cellsP _)) sz37 rfl rfl) (xm rfl (xm rfl ?_)))))))
 refine Cx.nil ⟨rfl, ?_⟩
 refine FinX.open_ 0 12 rfl rfl (fun v3 => ?_)
 refine FinX.done (AllC.cons (AllC.cons (AllC.cons (AllC.map _)))) (Fin.opn 12 0 _ rfl rfl (fun _ => rfl) (fun b5 => ?_))
 refine Fin.go (wk11 1 5 6 7 8 9 10 11 12 13 14 rfl (Tr.seq (Tr.pad (Tr.regX mixed [none, none, none, none, none, none, none, none, none, none, none, none, none, some (0, 0, true, 15), some (15, 0, true, 15), none, none] (by kernel_rfl) (xo rfl (fun _ => ok_loadA rfl agg37 sz37 (vl rfl) rfl rfl) (xo rfl (fun _ => kfa rfl fo29_0 rfl rfl) (xo rfl (fun _ => kl1 rfl one25 rfl) (xo rfl (fun _ => ok_indexAddr rfl Try.underlying25 sz35 (vl rfl) (vl rfl) (by omega) (row_atI (f := rowEp) (i := 0) he0)) (xo rfl (fun _ => ok_loadA rfl agg35 sz35 (vl rfl) rfl rfl) (xm rfl (xo rfl (fun _ => ok_call rfl (w_Mod (by omega) (by omega)) ⟨ke rfl, ke rfl, trivial⟩) ?_)))))))))))
 refine xo rfl (fun _ => ok_add rfl (vl rfl) (vl rfl) ?hin) ?_; case hin => unfold InI; omega
 refine xo rfl (fun _ => ok_call rfl (w_tryRef (e := e) (x := e) (k := 4 + n % 9) (f := 2) he he (.inr (.inr ⟨hce, rfl, by omega, rfl⟩))) ⟨ke rfl, ke rfl, ke rfl, trivial⟩) (xm rfl (xo rfl (fun _ => ok_extract rfl (vl rfl) rfl) (xo rfl (fun _ => ok_extract rfl (vl rfl) rfl) (xo rfl (fun _ => ok_extract rfl (vl rfl) rfl) (Cx.ef 0 rfl rfl (by decide) (ef_allocX rfl rfl (by decide) rfl z37 zo37) (Cx.ef0 0 rfl rfl (ef_storeX rfl rfl rfl rfl (VL.le (vl rfl) (agg_cellsP _)) sz37 rfl rfl) (xm rfl (xm rfl ?_))))))))
 refine Cx.nil ⟨rfl, ?_⟩
 refine FinX.open_ 0 15 rfl rfl (fun v4 => ?_)
 refine FinX.done (AllC.cons (AllC.cons (AllC.cons (AllC.cons (AllC.map _))))) (Fin.opn 15 0 _ rfl rfl (fun _ => rfl) (fun b6 => ?_))
 refine Fin.go (wk12 5 7 8 9 10 11 12 13 14 15 16 17 rfl (Tr.seq (Tr.regT (tm rfl (tp rfl (ok_build (rows := []) rfl bl35 zo35 trivial rfl) ?_)))))
 refine TO.efc 3 rfl rfl (by decide) (ef_callc rfl rfl (by decide) rfl (w_mkOdd (e := zeroEp) ep0_sz (by show (0 : Int) ≤ 0 ∧ (0 : Int) ≤ 1000; omega)) ⟨ke rfl, ⟨_, rfl, agg_le ⟨Pr.le_refl _, Pr.le_refl _, Pr.le_refl _, nil_slice 1, Pr.le_refl _, nil_slice 4, nil_slice 1, nil_slice 1, Pr.le_refl _, trivial⟩⟩, trivial⟩) ?_
 refine TO.ex 76 rfl (fun z2 => TO.fact 76 rfl fun hz2 => ?_)
 refine tp rfl (ok_call rfl (w_HNewN hz2.sz.fits (hz2.sz.small (by omega)) (odd_bad hz2)) ⟨ke rfl, trivial⟩) (tm rfl (tp rfl (ok_extract rfl (vl rfl) rfl) (tp rfl (ok_extract rfl (vl rfl) rfl) ?_)))
 refine TO.alloc rfl rfl (by decide) rfl z37 zo37 (fun b7 => ?_)
 refine TO.store_all 0 rfl rfl rfl (vl rfl) (VL.le (vl rfl) (agg_cellsP _)) rfl sz37 rfl rfl (TO.freeze 0 18 rfl rfl (tm rfl (TO.nil (Fin.openD 3 rfl (fun s2 => ?_)))))
 refine Fin.go (wk12 7 8 9 10 11 12 13 14 15 16 17 19 rfl (Tr.seq (Tr.reg0 (cm rfl (co rfl (ki rfl rfl rfl rfl) (cm rfl ?_))))))
 refine Ch.cs 82 rfl ?_ ?_ <;> intro h2 q2
 refine cym h2 rfl (cy h2 rfl (ki rfl rfl rfl rfl) (co rfl (kpt rfl rfl h2 rfl) (cm rfl ?_)))
 refine Ch.cs 86 rfl ?_ ?_ <;> intro h3 q3
 refine cym h3 rfl (cy h3 rfl (ki rfl rfl rfl rfl) (co rfl (kpt rfl rfl h3 rfl) (cm rfl ?_)))
 refine Ch.cs 90 rfl ?_ ?_ <;> intro h4 q4
 refine cym h4 rfl (cy h4 rfl (ki rfl rfl rfl rfl) (co rfl (kpt rfl rfl h4 rfl) (cm rfl ?_)))
 refine Ch.cs 94 rfl ?_ ?_ <;> intro h5 q5
 refine cym h5 rfl (cy h5 rfl (ki rfl rfl rfl rfl) (co rfl (kpt rfl rfl h5 rfl) (cm rfl ?_)))
 refine Ch.cs 98 rfl ?_ ?_ <;> intro h6 q6
 refine cym h6 rfl (cy h6 rfl (ok_not rfl (vl rfl)) (co rfl (kpt rfl rfl h6 rfl) (cm rfl ?_)))
 refine Ch.cs 102 rfl ?_ ?_ <;> intro h7 q7
 refine cym h7 rfl (cy h7 rfl (ok_not rfl (vl rfl)) (co rfl (kpt rfl rfl h7 rfl) (cm rfl ?_)))
 refine Ch.cs 106 rfl ?_ ?_ <;> intro h8 q8
 refine cym h8 rfl (cy h8 rfl (ok_not rfl (vl rfl)) (co rfl (kpt rfl rfl h8 rfl) (cm rfl ?_)))
 refine Ch.cs 110 rfl ?_ ?_ <;> intro h9 q9
 refine cy h9 rfl (ok_rd 2 rfl (rd_loadA rfl agg37 sz37 (vl rfl) rfl rfl)) (cy h9 rfl (ok_loadA rfl agg37 sz37 (vl rfl) rfl rfl) ?_)
 refine cy h9 rfl (ok_call rfl (w_HSame (a := ⟨e, []⟩) (b := ⟨e, []⟩)) ⟨ke rfl, ke rfl, trivial⟩) ?_
 refine co rfl (kpt rfl rfl h9 rfl) (cm rfl ?_)
 refine Ch.cs 115 rfl ?_ ?_ <;> intro h10 q10
 refine cy h10 rfl (ok_rd 1 rfl (rd_loadA rfl agg37 sz37 (vl rfl) rfl rfl)) (cy h10 rfl (ok_loadA rfl agg37 sz37 (vl rfl) rfl rfl) ?_)
 refine cy h10 rfl (ok_call rfl (w_HSame (a := ⟨e, []⟩) (b := ⟨e, []⟩)) ⟨ke rfl, ke rfl, trivial⟩) ?_
 refine co rfl (kpt rfl rfl h10 rfl) (cm rfl ?_)
 refine Ch.cs 120 rfl ?_ ?_ <;> intro h11 q11
 refine cy h11 rfl (ok_rd 0 rfl (rd_loadA rfl agg37 sz37 (vl rfl) rfl rfl)) (cy h11 rfl (ok_loadA rfl agg37 sz37 (vl rfl) rfl rfl) ?_)
 refine cy h11 rfl (ok_call rfl (w_HSame (a := ⟨e, []⟩) (b := ⟨e, []⟩)) ⟨ke rfl, ke rfl, trivial⟩) ?_
 refine co rfl (kpt rfl rfl h11 rfl) (cm rfl ?_)
 refine Ch.cs 125 rfl ?_ ?_ <;> intro h12 q12
 refine cy h12 rfl (ok_call rfl (w_awake36) trivial) (co rfl (kpt rfl rfl h12 rfl) (cm rfl (Ch.nil (Fin.go (Tr.drop 0 (Tr.drop 0 (Tr.drop 0 (wk1 4 rfl (Tr.ret (Fin.ret1 rfl (OutW.bse _ _) rfl ?_))))))))))
 · exact Pr.le_refl _
 exact absurd rfl q12
 exact absurd rfl q11
 exact absurd rfl q10
 exact absurd h9 (by decide)
 exact absurd h8 (by decide)
 exact absurd h7 (by decide)
 exact absurd h6 (by decide)
 exact absurd h5 (by decide)
 exact absurd h4 (by decide)
 exact absurd h3 (by decide)
 exact absurd h2 (by decide)
theorem hostNames_lifted (os : Os) (started : os.Started) (H : Type) (enc : TypeId × Value → H) :
    ReturnsInHanded {} Try.checked os 4 .any (Rows.hostNamesSpec.pre6 enc Try.prog Try.f4 Rows.hostNamesRow.domain false) (Rows.hostNamesSpec.post enc Try.prog Try.f4 false true false false) := by
  refine returnsInHanded_of_change (C := Try.checked) own0 started (by kernel_rfl) Try.func4
    (ChangeSpec.witness6 (enc := enc) (C := Try.checked) false ⟨#[], #[.slice none 0 0, .int .i64 0], []⟩ 8 (by kernel_rfl) (by kernel_rfl) (by kernel_rfl) (by kernel_rfl)) ?_
  intro W base args ds gs before hval0 hW hcnd _
  have hval : ∀ (j : Nat) t v, Try.f4.params[j]? = some t → args[j]? = some v → Value.okWide Try.prog W .any base t v := hval0
  have hW' := hW
  obtain ⟨p, q, hA0, hV, hpq, hfz, hnd⟩ := hW
  have hA : DataW.TrodAll enc Try.prog W 0 (fun _ => true) true Try.f4.params.toList args.toList ds p := hA0
  have hA' := hA
  rw [Try.params4] at hA hval
  obtain ⟨v0, v1, d0, d1, p0, p1, rfl, rfl, hp, h0, h1⟩ := trodAll_two hA
  obtain ⟨rfl, rfl⟩ := trodVars_none hV
  obtain ⟨a0, hr0, e0⟩ := arg_one (opens_ints Try.underlying22 Try.underlying3 (by kernel_rfl)) h0 (by obtain ⟨_, _, _, rfl⟩ := okWide_slice Try.underlying22 (hval 0 22 v0 rfl rfl); rfl)
  obtain ⟨a1, hr1, e1⟩ := arg_one (opens_int Try.underlying3) h1 (by obtain ⟨_, rfl⟩ := okWide_int Try.underlying3 (hval 1 3 v1 rfl rfl); rfl)
  refine ((w_HostNames).2 noM W [v0, v1] (noM_bd W) ⟨e0, e1, trivial⟩).mono fun e W' ⟨v, he, hv, hb⟩ => ?_
  subst he
  obtain rfl : v = .bool true := hv
  exact ⟨_, rfl, law_post laidOut0 (by kernel_rfl) rfl Try.underlying4 rfl hA' (by rw [hpq]; simp) hW' rfl hb⟩
theorem hostNames_holds : Rows.HostNamesSaid :=
  OpenClaim.holds_of_wide 4 Try.f4 rfl rfl rfl rfl rfl rfl rfl ⟨rfl, rfl, rfl, rfl, rfl⟩ rfl rfl rfl rfl rfl (by kernel_rfl) Try.func4 (by kernel_rfl)
    (of_decide_eq_true (by kernel_rfl)) (by unfold Func.isWrapper; first | (rw [if_pos (by decide +kernel)]; kernel_rfl) | (rw [if_neg (by decide +kernel)]; exact ⟨rfl, rfl⟩))
    (fun os started H enc _ => hostNames_lifted os started H enc)
end Go.Proofs.Ytflodcidhlmaaaa
