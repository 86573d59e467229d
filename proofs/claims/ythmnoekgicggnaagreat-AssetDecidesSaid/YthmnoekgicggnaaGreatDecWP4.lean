/-
  Part 4 of the texts that prove this claim, merged.
-/
import Derived.Laws.IdiomRangeMap
import Derived.Test.YthmnoekgicggnaaGreatDecWP3
set_option linter.all false
namespace Go.Proofs.YthmnoekgicggnaaGreat
open Go Go.RowKit Cp

def word_ (s : DS) (l : List (List UInt8)) : List UInt8 := (l[(s.val l.length).toNat]?).getD []
theorem word_mem (s : DS) {l : List (List UInt8)} (h : l ≠ []) : word_ s l ∈ l := by
  have h0 : 1 ≤ (l.length : Int) := by
    have := List.length_pos_iff.2 h
    omega
  have := s.val_in h0
  unfold word_
  rw [List.getElem?_eq_getElem (by omega)]
  exact List.getElem_mem _
abbrev strs (l : List (List UInt8)) : Pr := slice 1 (l.map fun t => [str t])
/-- A finding as the dice make it. -/
structure GoodF (f : Fnd) : Prop where
  check : checkF f = true
  fits : f.fits
  day : 0 ≤ f.day ∧ f.day < 12
structure GoodFs (l : List Fnd) (m : Nat) : Prop where
  norm : NormP l
  fits : ∀ f ∈ l, f.fits
  len : l.length ≤ m
  day : ∀ f ∈ l, 0 ≤ f.day ∧ f.day < 12
theorem named_abc {t : List UInt8} (h : t ∈ [[97], [98], [99]]) : named t = true ∧ t.length ≤ maxLen := by
  simp only [List.mem_cons, List.not_mem_nil, or_false] at h
  rcases h with rfl | rfl | rfl <;> exact ⟨by decide, by decide⟩
theorem named_st {t : List UInt8} (h : t ∈ [[115], [116]]) : named t = true ∧ t.length ≤ maxLen := by
  simp only [List.mem_cons, List.not_mem_nil, or_false] at h
  rcases h with rfl | rfl <;> exact ⟨by decide, by decide⟩
theorem named_ab {t : List UInt8} (h : t ∈ [[97], [98]]) : named t = true ∧ t.length ≤ maxLen := by
  simp only [List.mem_cons, List.not_mem_nil, or_false] at h
  rcases h with rfl | rfl <;> exact ⟨by decide, by decide⟩
theorem good_mk {f : Fnd} (h1 : 1 ≤ f.src ∧ f.src ≤ 7) (h2 : named f.host = true) (h3 : 0 ≤ f.machine ∧ f.machine ≤ 3) (h4 : 0 ≤ f.day ∧ f.day < 12) (h5 : 1 ≤ f.conf ∧ f.conf ≤ 100) (h6 : named f.subj = true) (h7 : contentF f = true)
    (l1 : f.host.length ≤ maxLen) (l2 : f.subj.length ≤ maxLen) (l3 : f.text.length ≤ maxLen) : GoodF f := by
  refine ⟨?_, ⟨l1, l2, l3⟩, h4⟩
  unfold checkF whereF whenF
  rw [h2, h6, h7]
  simp; omega
theorem all_snocF {β : Type} {p : β → Prop} {l : List β} {x : β} (h : ∀ y ∈ l, p y) (hx : p x) : ∀ y ∈ l ++ [x], p y := by
  intro y hy
  rcases List.mem_append.1 hy with hy | hy
  · exact h y hy
  · rw [List.mem_singleton.1 hy]; exact hx
theorem good_fold {l : List Fnd} {m : Nat} (h : ∀ f ∈ l, GoodF f) (hm : l.length ≤ m ∧ l.length ≤ 400) : GoodFs (l.foldl putF []) m := by
  have hmem : ∀ f ∈ l.foldl putF [], f ∈ l := fun f hf => by rcases fold_mem l [] hf with h1 | h1; exact absurd h1 (by simp); exact h1
  have hlen := fold_len l []
  simp at hlen
  exact ⟨norm_ok (fun f hf => (h f hf).check) hm.2, fun f hf => (h f (hmem f hf)).fits, by omega, fun f hf => (h f (hmem f hf)).day⟩
def useL : List (Int × Int) := [(1, 0), (2, 0), (5, 1024), (14, 128)]
theorem useL_ok : ∀ u ∈ useL, strength u.1 u.2 > 0 := by decide

set_option maxRecDepth 20000 in
theorem w_DWord {b : Nat} {s : DS} {l : List (List UInt8)} (hl : l ≠ []) (hl2 : l.length ≤ 1000000000) : FunM Tryz.prog 55 [ptr b 0, strs l] (str (word_ s l)) (diceS b s) (fun _ => diceS b s.adv) := by
 refine FunM.of Tryz.func55 rfl rfl (by exact Nat.le_of_ble_eq_true rfl) fun M0 w0 S rs M1 w1 => ?_
 have hl0 : 1 ≤ (l.length : Int) := by have := List.length_pos_iff.2 hl; omega
 have hv := s.val_in hl0
 obtain ⟨x, hx⟩ := at_ (l := l) (k := (s.val l.length).toNat) (by omega)
 refine Tr.seq ?_
 refine Tr.reg0 ?_
 refine Ch.op rfl rfl (by decide) (ok_assign rfl (vl rfl)) ?_
 refine Ch.nil ?_
 refine Fin.go ?_
 refine Tr.seq ?_
 refine Tr.regT ?_
 refine TO.op rfl rfl (by decide) (ok_move rfl (vl rfl)) ?_
 refine TO.op rfl rfl (by decide) (ok_move rfl (vl rfl)) ?_
 refine TO.op rfl rfl (by decide) (ok_move rfl (vl rfl)) ?_
 first
  | refine TO.op rfl rfl (by decide) (ok_lenm rfl Tryz.underlying33 (vl rfl)) ?_
  | refine TO.op rfl rfl (by decide) (ok_len rfl Tryz.underlying33 (vl rfl)) ?_
 refine TO.efc 0 rfl rfl (by decide) (ef_callc rfl rfl (by decide) rfl (w_DNext (by omega) (by omega)) ⟨⟨_, rfl, Pr.le_refl _⟩, ⟨_, rfl, Pr.le_refl _⟩, trivial⟩) ?_
 refine TO.op rfl rfl (by decide) (ok_indexAddr rfl Tryz.underlying33 sz9 (vl rfl) (vl rfl) (by omega) (row_atI hx)) ?_
 refine TO.op rfl rfl (by decide) (ok_load1 rfl one9 (vl rfl)) ?_
 refine TO.op rfl rfl (by decide) (ok_assign rfl (vl rfl)) ?_
 refine TO.nil ?_
 refine Fin.go ?_
 refine Tr.ret ?_
 refine Fin.retY1 [] rfl (RVal.tmp rfl (Pr.le_refl _)) ?_ (fun _ _ _ _ => rfl)
 · refine str_eq ?_; unfold word_; rw [hx]; rfl
set_option maxRecDepth 20000 in
set_option maxHeartbeats 400000 in
theorem w_Finding {b : Nat} {s : DS}  : FunM Tryz.prog 32 [ptr b 0] (ex fun f : Fnd => fact (GoodF f) (agg (rowF f))) (diceS b s) (fun _ => diceEx 74 b) := by
 refine FunM.of Tryz.func32 rfl rfl (by exact Nat.le_of_ble_eq_true rfl) fun M0 w0 S rs M1 w1 => ?_
 refine Tr.seq ?_
 refine Tr.regT ?_
 refine TO.alloc rfl rfl (by decide) rfl z42 zo42 (fun b1 => ?_)
 refine TO.nil ?_
 refine Fin.go ?_
 refine Tr.seq ?_
 have f1 := s.val_in (n := 7) (by omega)
 have f2 := named_abc (word_mem (s.adv) (l := [[97], [98], [99]]) (by simp))
 have f3 := (s.adv.adv).of_mem (l := [0, 1, 2, 0, 3]) (by simp)
 have f4 := (s.adv.adv.adv).val_in (n := 12) (by omega)
 have f5 := (s.adv.adv.adv.adv).of_mem (l := [90, 50, 100, 1]) (by simp)
 have f6 := (s.adv.adv.adv.adv.adv).val_in (n := 8) (by omega)
 have f7 := named_st (word_mem (s.adv.adv.adv.adv.adv.adv) (l := [[115], [116]]) (by simp))
 
 refine Tr.regT ?_
 refine TO.op rfl rfl (by decide) (ok_move rfl (vl rfl)) ?_
 refine TO.efc 1 rfl rfl (by decide) (ef_callc rfl rfl (by decide) rfl (w_DNext (by omega) (by omega)) ⟨⟨_, rfl, Pr.le_refl _⟩, ⟨_, rfl, Pr.le_refl _⟩, trivial⟩) ?_
 first
  | (refine TO.op rfl rfl (by decide) (ok_add rfl (vl rfl) (vl rfl) ?hin) ?_; case hin => unfold InI; omega)
  | refine TO.op rfl rfl (by decide) (ok_int rfl (vl rfl) (vl rfl) rfl) ?_
 refine TO.op rfl rfl (by decide) (ok_move rfl (vl rfl)) ?_
 refine TO.op rfl rfl (by decide) (ok_buildSlice (xs := [.const (.string ⟨[97].toArray⟩), .const (.string ⟨[98].toArray⟩), .const (.string ⟨[99].toArray⟩)]) (rows := [[_], [_], [_]]) rfl rfl Tryz.underlying33 sz9 z9 rfl (by decide) ⟨⟨(by exact rfl), (VL.le (vl rfl) (one_cellsP _))⟩, ⟨⟨(by exact rfl), (VL.le (vl rfl) (one_cellsP _))⟩, ⟨⟨(by exact rfl), (VL.le (vl rfl) (one_cellsP _))⟩, trivial⟩⟩⟩ (by decide)) ?_
 refine TO.efc 1 rfl rfl (by decide) (ef_callc rfl rfl (by decide) rfl (w_DWord (l := [[97], [98], [99]]) (by simp) (by simp)) ⟨⟨_, rfl, Pr.le_refl _⟩, ⟨_, rfl, full_le _ _⟩, trivial⟩) ?_
 refine TO.op rfl rfl (by decide) (ok_move rfl (vl rfl)) ?_
 refine TO.op rfl rfl (by decide) (ok_buildSlice (xs := [.const (.int .i64 (0)), .const (.int .i64 (1)), .const (.int .i64 (2)), .const (.int .i64 (0)), .const (.int .i64 (3))]) (rows := [[_], [_], [_], [_], [_]]) rfl rfl Tryz.underlying22 sz3 z3 rfl (by decide) ⟨⟨(by exact rfl), (VL.le (vl rfl) (one_cellsP _))⟩, ⟨⟨(by exact rfl), (VL.le (vl rfl) (one_cellsP _))⟩, ⟨⟨(by exact rfl), (VL.le (vl rfl) (one_cellsP _))⟩, ⟨⟨(by exact rfl), (VL.le (vl rfl) (one_cellsP _))⟩, ⟨⟨(by exact rfl), (VL.le (vl rfl) (one_cellsP _))⟩, trivial⟩⟩⟩⟩⟩ (by decide)) ?_
 refine TO.efc 1 rfl rfl (by decide) (ef_callc rfl rfl (by decide) rfl (w_DOf (l := [0, 1, 2, 0, 3]) (by simp) (by simp)) ⟨⟨_, rfl, Pr.le_refl _⟩, ⟨_, rfl, full_le _ _⟩, trivial⟩) ?_
 refine TO.op rfl rfl (by decide) (ok_move rfl (vl rfl)) ?_
 refine TO.efc 1 rfl rfl (by decide) (ef_callc rfl rfl (by decide) rfl (w_DNext (by omega) (by omega)) ⟨⟨_, rfl, Pr.le_refl _⟩, ⟨_, rfl, Pr.le_refl _⟩, trivial⟩) ?_
 refine TO.op rfl rfl (by decide) (ok_move rfl (vl rfl)) ?_
 refine TO.op rfl rfl (by decide) (ok_buildSlice (xs := [.const (.int .i64 (90)), .const (.int .i64 (50)), .const (.int .i64 (100)), .const (.int .i64 (1))]) (rows := [[_], [_], [_], [_]]) rfl rfl Tryz.underlying22 sz3 z3 rfl (by decide) ⟨⟨(by exact rfl), (VL.le (vl rfl) (one_cellsP _))⟩, ⟨⟨(by exact rfl), (VL.le (vl rfl) (one_cellsP _))⟩, ⟨⟨(by exact rfl), (VL.le (vl rfl) (one_cellsP _))⟩, ⟨⟨(by exact rfl), (VL.le (vl rfl) (one_cellsP _))⟩, trivial⟩⟩⟩⟩ (by decide)) ?_
 refine TO.efc 1 rfl rfl (by decide) (ef_callc rfl rfl (by decide) rfl (w_DOf (l := [90, 50, 100, 1]) (by simp) (by simp)) ⟨⟨_, rfl, Pr.le_refl _⟩, ⟨_, rfl, full_le _ _⟩, trivial⟩) ?_
 refine TO.op rfl rfl (by decide) (ok_move rfl (vl rfl)) ?_
 refine TO.efc 1 rfl rfl (by decide) (ef_callc rfl rfl (by decide) rfl (w_DNext (by omega) (by omega)) ⟨⟨_, rfl, Pr.le_refl _⟩, ⟨_, rfl, Pr.le_refl _⟩, trivial⟩) ?_
 first
  | (refine TO.op rfl rfl (by decide) (ok_add rfl (vl rfl) (vl rfl) ?hin) ?_; case hin => unfold InI; omega)
  | refine TO.op rfl rfl (by decide) (ok_int rfl (vl rfl) (vl rfl) rfl) ?_
 refine TO.op rfl rfl (by decide) (ok_move rfl (vl rfl)) ?_
 refine TO.op rfl rfl (by decide) (ok_buildSlice (xs := [.const (.string ⟨[115].toArray⟩), .const (.string ⟨[116].toArray⟩)]) (rows := [[_], [_]]) rfl rfl Tryz.underlying33 sz9 z9 rfl (by decide) ⟨⟨(by exact rfl), (VL.le (vl rfl) (one_cellsP _))⟩, ⟨⟨(by exact rfl), (VL.le (vl rfl) (one_cellsP _))⟩, trivial⟩⟩ (by decide)) ?_
 refine TO.efc 1 rfl rfl (by decide) (ef_callc rfl rfl (by decide) rfl (w_DWord (l := [[115], [116]]) (by simp) (by simp)) ⟨⟨_, rfl, Pr.le_refl _⟩, ⟨_, rfl, full_le _ _⟩, trivial⟩) ?_
 refine TO.op rfl rfl (by decide) (ok_build (rows := [(0, [_]), (1, [_]), (2, [_]), (3, [_]), (4, [_]), (5, [_]), (6, [_])]) rfl bl42 zo42 ⟨⟨rfl, (VL.le (vl rfl) (one_cellsP _))⟩, ⟨⟨rfl, (VL.le (vl rfl) (one_cellsP _))⟩, ⟨⟨rfl, (VL.le (vl rfl) (one_cellsP _))⟩, ⟨⟨rfl, (VL.le (vl rfl) (one_cellsP _))⟩, ⟨⟨rfl, (VL.le (vl rfl) (one_cellsP _))⟩, ⟨⟨rfl, (VL.le (vl rfl) (one_cellsP _))⟩, ⟨⟨rfl, (VL.le (vl rfl) (one_cellsP _))⟩, trivial⟩⟩⟩⟩⟩⟩⟩ rfl) ?_
 refine TO.alloc rfl rfl (by decide) rfl z42 zo42 (fun b2 => ?_)
 refine TO.store_all 0 rfl rfl rfl (vl rfl) (VL.le (vl rfl) (agg_cellsP _)) rfl sz42 rfl rfl ?_
 refine TO.nil ?_
 refine Fin.go ?_
 refine Tr.weak [(0, _), (2, _), (3, _)] ⟨⟨_, rfl, Pr.le_refl _⟩, ⟨_, rfl, Pr.le_refl _⟩, ⟨_, rfl, Pr.le_refl _⟩, trivial⟩ ?_
 refine Tr.seq ?_
 refine Tr.seq ?_
 generalize s.adv.adv.adv.adv.adv.adv.adv = s7
 generalize s.val 7 = src at f1 ⊢
 generalize word_ (s.adv) [[97], [98], [99]] = host at f2 ⊢
 generalize (s.adv.adv).of [0, 1, 2, 0, 3] = mach at f3 ⊢
 generalize (s.adv.adv.adv).val 12 = day at f4 ⊢
 generalize (s.adv.adv.adv.adv).of [90, 50, 100, 1] = conf at f5 ⊢
 generalize (s.adv.adv.adv.adv.adv).val 8 = kd at f6 ⊢
 generalize word_ (s.adv.adv.adv.adv.adv.adv) [[115], [116]] = subj at f7 ⊢
 have g3 : 0 ≤ mach ∧ mach ≤ 3 := by simp at f3; omega
 have g5 : 1 ≤ conf ∧ conf ≤ 100 := by simp at f5; omega
 refine Tr.reC 0 [int (1 + src), str host, int mach, int day, int conf, int (1 + kd), str subj, int 0, int 0, int 0, str []] rfl ⟨Pr.le_refl _, Pr.le_refl _, Pr.le_refl _, Pr.le_refl _, Pr.le_refl _, Pr.le_refl _, Pr.le_refl _, Pr.le_refl _, Pr.le_refl _, Pr.le_refl _, Pr.le_refl _, trivial⟩ ?_
 refine Tr.reg0 ?_
 refine Ch.op rfl rfl (by decide) (okp_fieldAddr rfl fo42_5 (vl rfl)) ?_
 refine Ch.op rfl rfl (by decide) (ok_rd 0 rfl (rd_load1 rfl one3 (vl rfl) rfl)) ?_
 refine Ch.nil ?_
 refine Fin.go ?_
 refine Tr.block ?_
 refine Tr.seq ?_
 refine Tr.seq ?_
 refine Tr.reg0 ?_
 refine Ch.op rfl rfl (by decide) (ok_int rfl (vl rfl) (vl rfl) rfl) ?_
 refine Ch.op rfl rfl (by decide) (ok_assign rfl (vl rfl)) ?_
 refine Ch.nil ?_
 refine Fin.go ?_
 refine Tr.cond rfl (fun h1 => ?_) (fun h1 => ?_)
 ·
  have q1 := Nrm.nrm h1
  refine Tr.skip ?_
  refine Fin.go ?_
  refine Tr.cond rfl (fun _ => ?_) (fun h => nomatch h1.symm.trans h)
  have f8 := s7.val_in (n := 4) (by omega)
  obtain ⟨u, hu⟩ := at_ (l := useL) (k := (s7.val 4).toNat) (by have : useL.length = 4 := rfl; omega)
  have hu2 := useL_ok u (List.mem_of_getElem? hu)
  refine Tr.regT ?_
  refine TO.op rfl rfl (by decide) (ok_build (rows := [(0, [_])]) rfl bl38 zo38 ⟨⟨rfl, (VL.le (vl rfl) (one_cellsP _))⟩, trivial⟩ rfl) ?_
  refine TO.op rfl rfl (by decide) (ok_build (rows := [(0, [_])]) rfl bl38 zo38 ⟨⟨rfl, (VL.le (vl rfl) (one_cellsP _))⟩, trivial⟩ rfl) ?_
  refine TO.op rfl rfl (by decide) (ok_build (rows := [(0, [_]), (1, [_])]) rfl bl38 zo38 ⟨⟨rfl, (VL.le (vl rfl) (one_cellsP _))⟩, ⟨⟨rfl, (VL.le (vl rfl) (one_cellsP _))⟩, trivial⟩⟩ rfl) ?_
  refine TO.op rfl rfl (by decide) (ok_build (rows := [(0, [_]), (1, [_])]) rfl bl38 zo38 ⟨⟨rfl, (VL.le (vl rfl) (one_cellsP _))⟩, ⟨⟨rfl, (VL.le (vl rfl) (one_cellsP _))⟩, trivial⟩⟩ rfl) ?_
  refine TO.op rfl rfl (by decide) (ok_buildSlice (xs := [.tmp 30, .tmp 31, .tmp 32, .tmp 33]) (rows := [_, _, _, _]) rfl rfl Tryz.underlying50 sz38 z38 rfl (by decide) ⟨⟨(by exact rfl), (VL.le (vl rfl) (agg_cellsP _))⟩, ⟨⟨(by exact rfl), (VL.le (vl rfl) (agg_cellsP _))⟩, ⟨⟨(by exact rfl), (VL.le (vl rfl) (agg_cellsP _))⟩, ⟨⟨(by exact rfl), (VL.le (vl rfl) (agg_cellsP _))⟩, trivial⟩⟩⟩⟩ (by decide)) ?_
  refine TO.op rfl rfl (by decide) (ok_move rfl (vl rfl)) ?_
  refine TO.efc 2 rfl rfl (by decide) (ef_callc rfl rfl (by decide) rfl (w_DNext (by omega) (by omega)) ⟨⟨_, rfl, Pr.le_refl _⟩, ⟨_, rfl, Pr.le_refl _⟩, trivial⟩) ?_
  refine TO.op rfl rfl (by decide) (ok_indexAddr rfl Tryz.underlying50 sz38 ⟨_, rfl, full_le _ _⟩ (vl rfl) (by omega) (row_atI (l := useL) (f := fun p : Int × Int => [int p.1, int p.2]) hu)) ?_
  refine TO.op rfl rfl (by decide) (ok_loadA rfl agg38 sz38 (vl rfl) rfl rfl) ?_
  refine TO.op rfl rfl (by decide) (okp_fieldAddr rfl fo42_7 (vl rfl)) ?_
  refine TO.ef0 0 rfl rfl (ef_store rfl rfl (vl rfl) (VL.le (vl rfl) (agg_cellsP _)) sz38 rfl (by exact Nat.le_of_ble_eq_true rfl) rfl) ?_
  refine TO.nil ?_
  refine Fin.block ?_
  refine Fin.go ?_
  refine Tr.weak [(2, _), (3, _)] ⟨⟨_, rfl, Pr.le_refl _⟩, ⟨_, rfl, Pr.le_refl _⟩, trivial⟩ ?_
  refine Tr.seq ?_
  refine Tr.reC 0 [int (1 + src), str host, int mach, int day, int conf, int (1 + kd), str subj, int u.1, int u.2, int 0, str []] rfl ⟨Pr.le_refl _, Pr.le_refl _, Pr.le_refl _, Pr.le_refl _, Pr.le_refl _, Pr.le_refl _, Pr.le_refl _, Pr.le_refl _, Pr.le_refl _, Pr.le_refl _, Pr.le_refl _, trivial⟩ ?_
  refine Tr.regT ?_
  refine TO.rd 0 rfl rfl rfl (by decide) (rd_loadA rfl agg42 sz42 (vl rfl) rfl rfl) ?_
  refine TO.store_all 1 rfl rfl rfl (vl rfl) (VL.le (vl rfl) (agg_cellsP _)) rfl sz42 rfl rfl ?_
  refine TO.nil ?_
  refine Fin.go ?_
  refine Tr.drop 0 ?_
  refine Tr.ret ?_
  refine Fin.closeD 1 _ rfl rfl ?_
  refine Fin.retY1 [_] rfl (RVal.cell 0 rfl rfl agg42 sz42 rfl (Pr.le_refl _)) ?_ (fun _ _ _ _ => rfl)
  · refine ex_in (Fnd.mk _ _ _ _ _ _ _ _ _ _ _) (fact_in ?_ (Pr.le_refl _)); exact good_mk (by show 1 ≤ 1 + src ∧ 1 + src ≤ 7; omega) f2.1 g3 f4 g5 f7.1 (by unfold contentF; rw [if_pos (by simp; omega)]; simp [hu2]) f2.2 f7.2 (by show (0 : Nat) ≤ _; omega)
 ·
  have q1 := Nrm.nrm h1
  refine Tr.reg0 ?_
  refine Ch.op rfl rfl (by decide) (ok_int rfl (vl rfl) (vl rfl) rfl) ?_
  refine Ch.op rfl rfl (by decide) (ok_assign rfl (vl rfl)) ?_
  refine Ch.nil ?_
  refine Fin.go ?_
  refine Tr.cond rfl (fun h2 => ?_) (fun h2 => ?_)
  ·
   have q2 := Nrm.nrm h2
   have f8 := s7.val_in (n := 4) (by omega)
   obtain ⟨u, hu⟩ := at_ (l := useL) (k := (s7.val 4).toNat) (by have : useL.length = 4 := rfl; omega)
   have hu2 := useL_ok u (List.mem_of_getElem? hu)
   refine Tr.regT ?_
   refine TO.op rfl rfl (by decide) (ok_build (rows := [(0, [_])]) rfl bl38 zo38 ⟨⟨rfl, (VL.le (vl rfl) (one_cellsP _))⟩, trivial⟩ rfl) ?_
   refine TO.op rfl rfl (by decide) (ok_build (rows := [(0, [_])]) rfl bl38 zo38 ⟨⟨rfl, (VL.le (vl rfl) (one_cellsP _))⟩, trivial⟩ rfl) ?_
   refine TO.op rfl rfl (by decide) (ok_build (rows := [(0, [_]), (1, [_])]) rfl bl38 zo38 ⟨⟨rfl, (VL.le (vl rfl) (one_cellsP _))⟩, ⟨⟨rfl, (VL.le (vl rfl) (one_cellsP _))⟩, trivial⟩⟩ rfl) ?_
   refine TO.op rfl rfl (by decide) (ok_build (rows := [(0, [_]), (1, [_])]) rfl bl38 zo38 ⟨⟨rfl, (VL.le (vl rfl) (one_cellsP _))⟩, ⟨⟨rfl, (VL.le (vl rfl) (one_cellsP _))⟩, trivial⟩⟩ rfl) ?_
   refine TO.op rfl rfl (by decide) (ok_buildSlice (xs := [.tmp 30, .tmp 31, .tmp 32, .tmp 33]) (rows := [_, _, _, _]) rfl rfl Tryz.underlying50 sz38 z38 rfl (by decide) ⟨⟨(by exact rfl), (VL.le (vl rfl) (agg_cellsP _))⟩, ⟨⟨(by exact rfl), (VL.le (vl rfl) (agg_cellsP _))⟩, ⟨⟨(by exact rfl), (VL.le (vl rfl) (agg_cellsP _))⟩, ⟨⟨(by exact rfl), (VL.le (vl rfl) (agg_cellsP _))⟩, trivial⟩⟩⟩⟩ (by decide)) ?_
   refine TO.op rfl rfl (by decide) (ok_move rfl (vl rfl)) ?_
   refine TO.efc 2 rfl rfl (by decide) (ef_callc rfl rfl (by decide) rfl (w_DNext (by omega) (by omega)) ⟨⟨_, rfl, Pr.le_refl _⟩, ⟨_, rfl, Pr.le_refl _⟩, trivial⟩) ?_
   refine TO.op rfl rfl (by decide) (ok_indexAddr rfl Tryz.underlying50 sz38 ⟨_, rfl, full_le _ _⟩ (vl rfl) (by omega) (row_atI (l := useL) (f := fun p : Int × Int => [int p.1, int p.2]) hu)) ?_
   refine TO.op rfl rfl (by decide) (ok_loadA rfl agg38 sz38 (vl rfl) rfl rfl) ?_
   refine TO.op rfl rfl (by decide) (okp_fieldAddr rfl fo42_7 (vl rfl)) ?_
   refine TO.ef0 0 rfl rfl (ef_store rfl rfl (vl rfl) (VL.le (vl rfl) (agg_cellsP _)) sz38 rfl (by exact Nat.le_of_ble_eq_true rfl) rfl) ?_
   refine TO.nil ?_
   refine Fin.block ?_
   refine Fin.go ?_
   refine Tr.weak [(2, _), (3, _)] ⟨⟨_, rfl, Pr.le_refl _⟩, ⟨_, rfl, Pr.le_refl _⟩, trivial⟩ ?_
   refine Tr.seq ?_
   refine Tr.reC 0 [int (1 + src), str host, int mach, int day, int conf, int (1 + kd), str subj, int u.1, int u.2, int 0, str []] rfl ⟨Pr.le_refl _, Pr.le_refl _, Pr.le_refl _, Pr.le_refl _, Pr.le_refl _, Pr.le_refl _, Pr.le_refl _, Pr.le_refl _, Pr.le_refl _, Pr.le_refl _, Pr.le_refl _, trivial⟩ ?_
   refine Tr.regT ?_
   refine TO.rd 0 rfl rfl rfl (by decide) (rd_loadA rfl agg42 sz42 (vl rfl) rfl rfl) ?_
   refine TO.store_all 1 rfl rfl rfl (vl rfl) (VL.le (vl rfl) (agg_cellsP _)) rfl sz42 rfl rfl ?_
   refine TO.nil ?_
   refine Fin.go ?_
   refine Tr.drop 0 ?_
   refine Tr.ret ?_
   refine Fin.closeD 1 _ rfl rfl ?_
   refine Fin.retY1 [_] rfl (RVal.cell 0 rfl rfl agg42 sz42 rfl (Pr.le_refl _)) ?_ (fun _ _ _ _ => rfl)
   · refine ex_in (Fnd.mk _ _ _ _ _ _ _ _ _ _ _) (fact_in ?_ (Pr.le_refl _)); exact good_mk (by show 1 ≤ 1 + src ∧ 1 + src ≤ 7; omega) f2.1 g3 f4 g5 f7.1 (by unfold contentF; rw [if_pos (by simp; omega)]; simp [hu2]) f2.2 f7.2 (by show (0 : Nat) ≤ _; omega)
  ·
   have q2 := Nrm.nrm h2
   refine Tr.seq ?_
   refine Tr.reg0 ?_
   refine Ch.op rfl rfl (by decide) (ok_int rfl (vl rfl) (vl rfl) rfl) ?_
   refine Ch.op rfl rfl (by decide) (ok_assign rfl (vl rfl)) ?_
   refine Ch.nil ?_
   refine Fin.go ?_
   refine Tr.cond rfl (fun h3 => ?_) (fun h3 => ?_)
   ·
    have q3 := Nrm.nrm h3
    have f8 := s7.val_in (n := 5) (by omega)
    refine Tr.regT ?_
    refine TO.op rfl rfl (by decide) (ok_move rfl (vl rfl)) ?_
    refine TO.efc 2 rfl rfl (by decide) (ef_callc rfl rfl (by decide) rfl (w_DNext (by omega) (by omega)) ⟨⟨_, rfl, Pr.le_refl _⟩, ⟨_, rfl, Pr.le_refl _⟩, trivial⟩) ?_
    first
     | (refine TO.op rfl rfl (by decide) (ok_add rfl (vl rfl) (vl rfl) ?hin) ?_; case hin => unfold InI; omega)
     | refine TO.op rfl rfl (by decide) (ok_int rfl (vl rfl) (vl rfl) rfl) ?_
    refine TO.op rfl rfl (by decide) (okp_fieldAddr rfl fo42_8 (vl rfl)) ?_
    refine TO.ef0 0 rfl rfl (ef_store rfl rfl (vl rfl) (VL.le (vl rfl) (one_cellsP _)) sz3 rfl (by exact Nat.le_of_ble_eq_true rfl) rfl) ?_
    refine TO.nil ?_
    refine Fin.block ?_
    refine Fin.go ?_
    refine Tr.weak [(2, _), (3, _)] ⟨⟨_, rfl, Pr.le_refl _⟩, ⟨_, rfl, Pr.le_refl _⟩, trivial⟩ ?_
    refine Tr.seq ?_
    refine Tr.reC 0 [int (1 + src), str host, int mach, int day, int conf, int (1 + kd), str subj, int 0, int 0, int (1 + s7.val 5), str []] rfl ⟨Pr.le_refl _, Pr.le_refl _, Pr.le_refl _, Pr.le_refl _, Pr.le_refl _, Pr.le_refl _, Pr.le_refl _, Pr.le_refl _, Pr.le_refl _, Pr.le_refl _, Pr.le_refl _, trivial⟩ ?_
    generalize s7.val 5 = nv at f8 ⊢
    refine Tr.regT ?_
    refine TO.rd 0 rfl rfl rfl (by decide) (rd_loadA rfl agg42 sz42 (vl rfl) rfl rfl) ?_
    refine TO.store_all 1 rfl rfl rfl (vl rfl) (VL.le (vl rfl) (agg_cellsP _)) rfl sz42 rfl rfl ?_
    refine TO.nil ?_
    refine Fin.go ?_
    refine Tr.drop 0 ?_
    refine Tr.ret ?_
    refine Fin.closeD 1 _ rfl rfl ?_
    refine Fin.retY1 [_] rfl (RVal.cell 0 rfl rfl agg42 sz42 rfl (Pr.le_refl _)) ?_ (fun _ _ _ _ => rfl)
    · refine ex_in (Fnd.mk _ _ _ _ _ _ _ _ _ _ _) (fact_in ?_ (Pr.le_refl _)); exact good_mk (by show 1 ≤ 1 + src ∧ 1 + src ≤ 7; omega) f2.1 g3 f4 g5 f7.1 (by unfold contentF bareF; rw [if_neg (by simp; omega), if_pos (by simp; omega)]; simp; omega) f2.2 f7.2 (by show (0 : Nat) ≤ _; omega)
   ·
    have q3 := Nrm.nrm h3
    refine Tr.seq ?_
    refine Tr.reg0 ?_
    refine Ch.op rfl rfl (by decide) (ok_int rfl (vl rfl) (vl rfl) rfl) ?_
    refine Ch.op rfl rfl (by decide) (ok_assign rfl (vl rfl)) ?_
    refine Ch.nil ?_
    refine Fin.go ?_
    refine Tr.cond rfl (fun h4 => ?_) (fun h4 => ?_)
    ·
     have q4 := Nrm.nrm h4
     have f8 := s7.of_mem (l := [1024, 2048]) (by simp)
     have f9 := s7.adv.val_in (n := 3) (by omega)
     refine Tr.regT ?_
     refine TO.op rfl rfl (by decide) (ok_move rfl (vl rfl)) ?_
     refine TO.op rfl rfl (by decide) (ok_buildSlice (xs := [.const (.int .i64 (1024)), .const (.int .i64 (2048))]) (rows := [[_], [_]]) rfl rfl Tryz.underlying22 sz3 z3 rfl (by decide) ⟨⟨(by exact rfl), (VL.le (vl rfl) (one_cellsP _))⟩, ⟨⟨(by exact rfl), (VL.le (vl rfl) (one_cellsP _))⟩, trivial⟩⟩ (by decide)) ?_
     refine TO.efc 2 rfl rfl (by decide) (ef_callc rfl rfl (by decide) rfl (w_DOf (l := [1024, 2048]) (by simp) (by simp)) ⟨⟨_, rfl, Pr.le_refl _⟩, ⟨_, rfl, full_le _ _⟩, trivial⟩) ?_
     refine TO.op rfl rfl (by decide) (ok_build (rows := [(0, [_]), (1, [_])]) rfl bl38 zo38 ⟨⟨rfl, (VL.le (vl rfl) (one_cellsP _))⟩, ⟨⟨rfl, (VL.le (vl rfl) (one_cellsP _))⟩, trivial⟩⟩ rfl) ?_
     refine TO.op rfl rfl (by decide) (ok_move rfl (vl rfl)) ?_
     refine TO.efc 2 rfl rfl (by decide) (ef_callc rfl rfl (by decide) rfl (w_DNext (by omega) (by omega)) ⟨⟨_, rfl, Pr.le_refl _⟩, ⟨_, rfl, Pr.le_refl _⟩, trivial⟩) ?_
     first
      | (refine TO.op rfl rfl (by decide) (ok_add rfl (vl rfl) (vl rfl) ?hin) ?_; case hin => unfold InI; omega)
      | refine TO.op rfl rfl (by decide) (ok_int rfl (vl rfl) (vl rfl) rfl) ?_
     refine TO.op rfl rfl (by decide) (okp_fieldAddr rfl fo42_7 (vl rfl)) ?_
     refine TO.ef0 0 rfl rfl (ef_store rfl rfl (vl rfl) (VL.le (vl rfl) (agg_cellsP _)) sz38 rfl (by exact Nat.le_of_ble_eq_true rfl) rfl) ?_
     refine TO.op rfl rfl (by decide) (okp_fieldAddr rfl fo42_8 (vl rfl)) ?_
     refine TO.ef0 0 rfl rfl (ef_store rfl rfl (vl rfl) (VL.le (vl rfl) (one_cellsP _)) sz3 rfl (by exact Nat.le_of_ble_eq_true rfl) rfl) ?_
     refine TO.nil ?_
     refine Fin.block ?_
     refine Fin.go ?_
     refine Tr.weak [(2, _), (3, _)] ⟨⟨_, rfl, Pr.le_refl _⟩, ⟨_, rfl, Pr.le_refl _⟩, trivial⟩ ?_
     refine Tr.seq ?_
     refine Tr.reC 0 [int (1 + src), str host, int mach, int day, int conf, int (1 + kd), str subj, int 5, int (s7.of [1024, 2048]), int (100 + s7.adv.val 3), str []] rfl ⟨Pr.le_refl _, Pr.le_refl _, Pr.le_refl _, Pr.le_refl _, Pr.le_refl _, Pr.le_refl _, Pr.le_refl _, Pr.le_refl _, Pr.le_refl _, Pr.le_refl _, Pr.le_refl _, trivial⟩ ?_
     generalize s7.of [1024, 2048] = bt at f8 ⊢
     generalize s7.adv.val 3 = nv at f9 ⊢
     refine Tr.regT ?_
     refine TO.rd 0 rfl rfl rfl (by decide) (rd_loadA rfl agg42 sz42 (vl rfl) rfl rfl) ?_
     refine TO.store_all 1 rfl rfl rfl (vl rfl) (VL.le (vl rfl) (agg_cellsP _)) rfl sz42 rfl rfl ?_
     refine TO.nil ?_
     refine Fin.go ?_
     refine Tr.drop 0 ?_
     refine Tr.ret ?_
     refine Fin.closeD 1 _ rfl rfl ?_
     refine Fin.retY1 [_] rfl (RVal.cell 0 rfl rfl agg42 sz42 rfl (Pr.le_refl _)) ?_ (fun _ _ _ _ => rfl)
     · refine ex_in (Fnd.mk _ _ _ _ _ _ _ _ _ _ _) (fact_in ?_ (Pr.le_refl _)); exact good_mk (by show 1 ≤ 1 + src ∧ 1 + src ≤ 7; omega) f2.1 g3 f4 g5 f7.1 (by unfold contentF; rw [if_neg (by simp; omega), if_neg (by simp; omega), if_pos (by simp; omega)]; simp at f8; rcases f8 with h | h <;> rw [h] <;> simp [show strength 5 1024 > 0 by decide, show strength 5 2048 > 0 by decide, show (catOf 5).kind = 2 by rfl] <;> omega) f2.2 f7.2 (by show (0 : Nat) ≤ _; omega)
    ·
     have q4 := Nrm.nrm h4
     refine Tr.seq ?_
     refine Tr.seq ?_
     refine Tr.reg0 ?_
     refine Ch.op rfl rfl (by decide) (ok_int rfl (vl rfl) (vl rfl) rfl) ?_
     refine Ch.op rfl rfl (by decide) (ok_assign rfl (vl rfl)) ?_
     refine Ch.nil ?_
     refine Fin.go ?_
     refine Tr.weak [(0, _), (2, _), (3, _), (26, _), (57, _)] ⟨⟨_, rfl, Pr.le_refl _⟩, ⟨_, rfl, Pr.le_refl _⟩, ⟨_, rfl, Pr.le_refl _⟩, ⟨_, rfl, Pr.le_refl _⟩, ⟨_, rfl, Pr.le_refl _⟩, trivial⟩ ?_
     refine Tr.cond rfl (fun h5 => ?_) (fun h5 => ?_)
     ·
      have q5 := Nrm.nrm h5
      refine Tr.skip ?_
      refine Fin.go ?_
      refine Tr.cond rfl (fun _ => ?_) (fun h => nomatch h5.symm.trans h)
      have f8 := s7.val_in (n := 4) (by omega)
      refine Tr.regT ?_
      refine TO.op rfl rfl (by decide) (ok_move rfl (vl rfl)) ?_
      refine TO.efc 2 rfl rfl (by decide) (ef_callc rfl rfl (by decide) rfl (w_DNext (by omega) (by omega)) ⟨⟨_, rfl, Pr.le_refl _⟩, ⟨_, rfl, Pr.le_refl _⟩, trivial⟩) ?_
      first
       | (refine TO.op rfl rfl (by decide) (ok_add rfl (vl rfl) (vl rfl) ?hin) ?_; case hin => unfold InI; omega)
       | refine TO.op rfl rfl (by decide) (ok_int rfl (vl rfl) (vl rfl) rfl) ?_
      refine TO.op rfl rfl (by decide) (okp_fieldAddr rfl fo42_8 (vl rfl)) ?_
      refine TO.ef0 0 rfl rfl (ef_store rfl rfl (vl rfl) (VL.le (vl rfl) (one_cellsP _)) sz3 rfl (by exact Nat.le_of_ble_eq_true rfl) rfl) ?_
      refine TO.nil ?_
      refine Fin.block ?_
      refine Fin.go ?_
      refine Tr.seq ?_
      refine Tr.reC 0 [int (1 + src), str host, int mach, int day, int conf, int (1 + kd), str subj, int 0, int 0, int (1 + s7.val 4), str []] rfl ⟨Pr.le_refl _, Pr.le_refl _, Pr.le_refl _, Pr.le_refl _, Pr.le_refl _, Pr.le_refl _, Pr.le_refl _, Pr.le_refl _, Pr.le_refl _, Pr.le_refl _, Pr.le_refl _, trivial⟩ ?_
      generalize s7.val 4 = nv at f8 ⊢
      refine Tr.regT ?_
      refine TO.rd 0 rfl rfl rfl (by decide) (rd_loadA rfl agg42 sz42 (vl rfl) rfl rfl) ?_
      refine TO.store_all 1 rfl rfl rfl (vl rfl) (VL.le (vl rfl) (agg_cellsP _)) rfl sz42 rfl rfl ?_
      refine TO.nil ?_
      refine Fin.go ?_
      refine Tr.drop 0 ?_
      refine Tr.ret ?_
      refine Fin.closeD 1 _ rfl rfl ?_
      refine Fin.retY1 [_] rfl (RVal.cell 0 rfl rfl agg42 sz42 rfl (Pr.le_refl _)) ?_ (fun _ _ _ _ => rfl)
      · refine ex_in (Fnd.mk _ _ _ _ _ _ _ _ _ _ _) (fact_in ?_ (Pr.le_refl _)); exact good_mk (by show 1 ≤ 1 + src ∧ 1 + src ≤ 7; omega) f2.1 g3 f4 g5 f7.1 (by unfold contentF bareF; rw [if_neg (by simp; omega), if_neg (by simp; omega), if_neg (by simp; omega), if_pos (by simp; omega)]; simp; omega) f2.2 f7.2 (by show (0 : Nat) ≤ _; omega)
     ·
      have q5 := Nrm.nrm h5
      refine Tr.reg0 ?_
      refine Ch.op rfl rfl (by decide) (ok_int rfl (vl rfl) (vl rfl) rfl) ?_
      refine Ch.op rfl rfl (by decide) (ok_assign rfl (vl rfl)) ?_
      refine Ch.nil ?_
      refine Fin.go ?_
      refine Tr.cond rfl (fun h6 => ?_) (fun h6 => ?_)
      ·
       have q6 := Nrm.nrm h6
       have f8 := s7.val_in (n := 4) (by omega)
       refine Tr.regT ?_
       refine TO.op rfl rfl (by decide) (ok_move rfl (vl rfl)) ?_
       refine TO.efc 2 rfl rfl (by decide) (ef_callc rfl rfl (by decide) rfl (w_DNext (by omega) (by omega)) ⟨⟨_, rfl, Pr.le_refl _⟩, ⟨_, rfl, Pr.le_refl _⟩, trivial⟩) ?_
       first
        | (refine TO.op rfl rfl (by decide) (ok_add rfl (vl rfl) (vl rfl) ?hin) ?_; case hin => unfold InI; omega)
        | refine TO.op rfl rfl (by decide) (ok_int rfl (vl rfl) (vl rfl) rfl) ?_
       refine TO.op rfl rfl (by decide) (okp_fieldAddr rfl fo42_8 (vl rfl)) ?_
       refine TO.ef0 0 rfl rfl (ef_store rfl rfl (vl rfl) (VL.le (vl rfl) (one_cellsP _)) sz3 rfl (by exact Nat.le_of_ble_eq_true rfl) rfl) ?_
       refine TO.nil ?_
       refine Fin.block ?_
       refine Fin.go ?_
       refine Tr.seq ?_
       refine Tr.reC 0 [int (1 + src), str host, int mach, int day, int conf, int (1 + kd), str subj, int 0, int 0, int (1 + s7.val 4), str []] rfl ⟨Pr.le_refl _, Pr.le_refl _, Pr.le_refl _, Pr.le_refl _, Pr.le_refl _, Pr.le_refl _, Pr.le_refl _, Pr.le_refl _, Pr.le_refl _, Pr.le_refl _, Pr.le_refl _, trivial⟩ ?_
       generalize s7.val 4 = nv at f8 ⊢
       refine Tr.regT ?_
       refine TO.rd 0 rfl rfl rfl (by decide) (rd_loadA rfl agg42 sz42 (vl rfl) rfl rfl) ?_
       refine TO.store_all 1 rfl rfl rfl (vl rfl) (VL.le (vl rfl) (agg_cellsP _)) rfl sz42 rfl rfl ?_
       refine TO.nil ?_
       refine Fin.go ?_
       refine Tr.drop 0 ?_
       refine Tr.ret ?_
       refine Fin.closeD 1 _ rfl rfl ?_
       refine Fin.retY1 [_] rfl (RVal.cell 0 rfl rfl agg42 sz42 rfl (Pr.le_refl _)) ?_ (fun _ _ _ _ => rfl)
       · refine ex_in (Fnd.mk _ _ _ _ _ _ _ _ _ _ _) (fact_in ?_ (Pr.le_refl _)); exact good_mk (by show 1 ≤ 1 + src ∧ 1 + src ≤ 7; omega) f2.1 g3 f4 g5 f7.1 (by unfold contentF bareF; rw [if_neg (by simp; omega), if_neg (by simp; omega), if_neg (by simp; omega), if_pos (by simp; omega)]; simp; omega) f2.2 f7.2 (by show (0 : Nat) ≤ _; omega)
      ·
       have q6 := Nrm.nrm h6
       refine Tr.seq ?_
       refine Tr.reg0 ?_
       refine Ch.op rfl rfl (by decide) (ok_int rfl (vl rfl) (vl rfl) rfl) ?_
       refine Ch.op rfl rfl (by decide) (ok_assign rfl (vl rfl)) ?_
       refine Ch.nil ?_
       refine Fin.go ?_
       refine Tr.cond rfl (fun h7 => ?_) (fun h7 => ?_)
       ·
        have q7 := Nrm.nrm h7
        have f8 := s7.val_in (n := 3) (by omega)
        refine Tr.regT ?_
        refine TO.op rfl rfl (by decide) (ok_move rfl (vl rfl)) ?_
        refine TO.efc 2 rfl rfl (by decide) (ef_callc rfl rfl (by decide) rfl (w_DNext (by omega) (by omega)) ⟨⟨_, rfl, Pr.le_refl _⟩, ⟨_, rfl, Pr.le_refl _⟩, trivial⟩) ?_
        refine TO.op rfl rfl (by decide) (okp_fieldAddr rfl fo42_8 (vl rfl)) ?_
        refine TO.ef0 0 rfl rfl (ef_store rfl rfl (vl rfl) (VL.le (vl rfl) (one_cellsP _)) sz3 rfl (by exact Nat.le_of_ble_eq_true rfl) rfl) ?_
        refine TO.nil ?_
        refine Fin.block ?_
        refine Fin.go ?_
        refine Tr.seq ?_
        refine Tr.reC 0 [int (1 + src), str host, int mach, int day, int conf, int (1 + kd), str subj, int 0, int 0, int (s7.val 3), str []] rfl ⟨Pr.le_refl _, Pr.le_refl _, Pr.le_refl _, Pr.le_refl _, Pr.le_refl _, Pr.le_refl _, Pr.le_refl _, Pr.le_refl _, Pr.le_refl _, Pr.le_refl _, Pr.le_refl _, trivial⟩ ?_
        generalize s7.val 3 = nv at f8 ⊢
        refine Tr.regT ?_
        refine TO.rd 0 rfl rfl rfl (by decide) (rd_loadA rfl agg42 sz42 (vl rfl) rfl rfl) ?_
        refine TO.store_all 1 rfl rfl rfl (vl rfl) (VL.le (vl rfl) (agg_cellsP _)) rfl sz42 rfl rfl ?_
        refine TO.nil ?_
        refine Fin.go ?_
        refine Tr.drop 0 ?_
        refine Tr.ret ?_
        refine Fin.closeD 1 _ rfl rfl ?_
        refine Fin.retY1 [_] rfl (RVal.cell 0 rfl rfl agg42 sz42 rfl (Pr.le_refl _)) ?_ (fun _ _ _ _ => rfl)
        · refine ex_in (Fnd.mk _ _ _ _ _ _ _ _ _ _ _) (fact_in ?_ (Pr.le_refl _)); exact good_mk (by show 1 ≤ 1 + src ∧ 1 + src ≤ 7; omega) f2.1 g3 f4 g5 f7.1 (by unfold contentF bareF; rw [if_neg (by simp; omega), if_neg (by simp; omega), if_neg (by simp; omega), if_neg (by simp; omega), if_pos (by simp; omega)]; simp; omega) f2.2 f7.2 (by show (0 : Nat) ≤ _; omega)
       ·
        have q7 := Nrm.nrm h7
        refine Tr.seq ?_
        skip
        refine Tr.reg0 ?_
        refine Ch.op rfl rfl (by decide) (ok_int rfl (vl rfl) (vl rfl) rfl) ?_
        refine Ch.op rfl rfl (by decide) (ok_assign rfl (vl rfl)) ?_
        refine Ch.nil ?_
        refine Fin.go ?_
        refine Tr.cond rfl (fun h8 => ?_) (fun h8 => ?_)
        ·
         have q8 := Nrm.nrm h8
         have f8 := named_ab (word_mem s7 (l := [[97], [98]]) (by simp))
         refine Tr.regT ?_
         refine TO.op rfl rfl (by decide) (ok_move rfl (vl rfl)) ?_
         refine TO.op rfl rfl (by decide) (ok_buildSlice (xs := [.const (.string ⟨[97].toArray⟩), .const (.string ⟨[98].toArray⟩)]) (rows := [[_], [_]]) rfl rfl Tryz.underlying33 sz9 z9 rfl (by decide) ⟨⟨(by exact rfl), (VL.le (vl rfl) (one_cellsP _))⟩, ⟨⟨(by exact rfl), (VL.le (vl rfl) (one_cellsP _))⟩, trivial⟩⟩ (by decide)) ?_
         refine TO.efc 2 rfl rfl (by decide) (ef_callc rfl rfl (by decide) rfl (w_DWord (l := [[97], [98]]) (by simp) (by simp)) ⟨⟨_, rfl, Pr.le_refl _⟩, ⟨_, rfl, full_le _ _⟩, trivial⟩) ?_
         refine TO.op rfl rfl (by decide) (okp_fieldAddr rfl fo42_9 (vl rfl)) ?_
         refine TO.ef0 0 rfl rfl (ef_store rfl rfl (vl rfl) (VL.le (vl rfl) (one_cellsP _)) sz9 rfl (by exact Nat.le_of_ble_eq_true rfl) rfl) ?_
         refine TO.nil ?_
         refine Fin.block ?_
         refine Fin.go ?_
         refine Tr.weak [(2, _), (3, _)] ⟨⟨_, rfl, Pr.le_refl _⟩, ⟨_, rfl, Pr.le_refl _⟩, trivial⟩ ?_
         refine Tr.seq ?_
         refine Tr.reC 0 [int (1 + src), str host, int mach, int day, int conf, int (1 + kd), str subj, int 0, int 0, int 0, str (word_ s7 [[97], [98]])] rfl ⟨Pr.le_refl _, Pr.le_refl _, Pr.le_refl _, Pr.le_refl _, Pr.le_refl _, Pr.le_refl _, Pr.le_refl _, Pr.le_refl _, Pr.le_refl _, Pr.le_refl _, Pr.le_refl _, trivial⟩ ?_
         generalize word_ s7 [[97], [98]] = tx at f8 ⊢
         refine Tr.regT ?_
         refine TO.rd 0 rfl rfl rfl (by decide) (rd_loadA rfl agg42 sz42 (vl rfl) rfl rfl) ?_
         refine TO.store_all 1 rfl rfl rfl (vl rfl) (VL.le (vl rfl) (agg_cellsP _)) rfl sz42 rfl rfl ?_
         refine TO.nil ?_
         refine Fin.go ?_
         refine Tr.drop 0 ?_
         refine Tr.ret ?_
         refine Fin.closeD 1 _ rfl rfl ?_
         refine Fin.retY1 [_] rfl (RVal.cell 0 rfl rfl agg42 sz42 rfl (Pr.le_refl _)) ?_ (fun _ _ _ _ => rfl)
         · refine ex_in (Fnd.mk _ _ _ _ _ _ _ _ _ _ _) (fact_in ?_ (Pr.le_refl _)); exact good_mk (by show 1 ≤ 1 + src ∧ 1 + src ≤ 7; omega) f2.1 g3 f4 g5 f7.1 (by unfold contentF; rw [if_neg (by simp; omega), if_neg (by simp; omega), if_neg (by simp; omega), if_neg (by simp; omega), if_neg (by simp; omega), if_pos (by simp; omega)]; simp [f8.1]) f2.2 f7.2 f8.2
        ·
         have q8 := Nrm.nrm h8
         refine Tr.skip ?_
         refine Fin.block ?_
         refine Fin.go ?_
         refine Tr.seq ?_
         refine Tr.reC 0 [int (1 + src), str host, int mach, int day, int conf, int (1 + kd), str subj, int 0, int 0, int 0, str []] rfl ⟨Pr.le_refl _, Pr.le_refl _, Pr.le_refl _, Pr.le_refl _, Pr.le_refl _, Pr.le_refl _, Pr.le_refl _, Pr.le_refl _, Pr.le_refl _, Pr.le_refl _, Pr.le_refl _, trivial⟩ ?_
         refine Tr.regT ?_
         refine TO.rd 0 rfl rfl rfl (by decide) (rd_loadA rfl agg42 sz42 (vl rfl) rfl rfl) ?_
         refine TO.store_all 1 rfl rfl rfl (vl rfl) (VL.le (vl rfl) (agg_cellsP _)) rfl sz42 rfl rfl ?_
         refine TO.nil ?_
         refine Fin.go ?_
         refine Tr.drop 0 ?_
         refine Tr.ret ?_
         refine Fin.closeD 1 _ rfl rfl ?_
         refine Fin.retY1 [_] rfl (RVal.cell 0 rfl rfl agg42 sz42 rfl (Pr.le_refl _)) ?_ (fun _ _ _ _ => rfl)
         · exfalso; omega
set_option maxRecDepth 20000 in
theorem w_Findings {b : Nat} {s : DS} {m : Nat} (hm : m ≤ 100) : FunM Tryz.prog 11 [ptr b 0, int ((m : Nat) : Int)] (ex fun l : List Fnd => fact (GoodFs l m) (fnds l)) (diceS b s) (fun _ => diceEx 74 b) := by
 refine FunM.of Tryz.func11 rfl rfl (by exact Nat.le_of_ble_eq_true rfl) fun M0 w0 S rs M1 w1 => ?_
 refine Tr.seq ?_
 refine Tr.reg0 ?_
 refine Ch.op rfl rfl (by decide) (ok_assign rfl (vl rfl)) ?_
 refine Ch.nil ?_
 refine Fin.go ?_
 refine Tr.seq ?_
 refine Tr.reg0 ?_
 refine Ch.op rfl rfl (by decide) (ok_assign rfl (vl rfl)) ?_
 refine Ch.nil ?_
 refine Fin.go ?_
 refine Tr.seq ?_
 refine Tr.seq ?_
 refine Tr.regT ?_
 refine TO.op rfl rfl (by decide) (ok_move rfl (vl rfl)) ?_
 refine TO.op rfl rfl (by decide) (ok_move rfl (vl rfl)) ?_
 first
  | (refine TO.op rfl rfl (by decide) (ok_add rfl (vl rfl) (vl rfl) ?hin) ?_; case hin => unfold InI; omega)
  | refine TO.op rfl rfl (by decide) (ok_int rfl (vl rfl) (vl rfl) rfl) ?_
 refine TO.efc 0 rfl rfl (by decide) (ef_callc rfl rfl (by decide) rfl (w_DNext (by omega) (by omega)) ⟨⟨_, rfl, Pr.le_refl _⟩, ⟨_, rfl, Pr.le_refl _⟩, trivial⟩) ?_
 refine TO.op rfl rfl (by decide) (ok_assign rfl (vl rfl)) ?_
 refine TO.nil ?_
 refine Fin.go ?_
 refine Tr.block ?_
 have hv := s.val_in (n := (m : Int) + 1) (by omega)
 refine Tr.addnil 42 11 ?_
 refine Tr.loopD3V1 [(0, _)] ⟨⟨_, rfl, Pr.le_refl _⟩, trivial⟩ (fun (l : List Fnd) (k : Int) (s2 : DS) u => [(6, int k), (5, andIs u (fnds l))]) (fun (l : List Fnd) (k : Int) (s2 : DS) u => Hp M0 w0 S (appRes 42 11 u :: diceS b s2 :: extRes M1 w1 :: rs)) (fun (l : List Fnd) (k : Int) (s2 : DS) => 0 ≤ k ∧ l.length + k ≤ m ∧ ∀ f ∈ l, GoodF f) (fun (l : List Fnd) (k : Int) (s2 : DS) => k.toNat) ([]) (_) (_) (.slice none 0 0) (⟨by omega, by simp; omega, by simp⟩) ⟨⟨_, rfl, Pr.le_refl _⟩, ⟨_, rfl, own_nil (by simp)⟩, trivial⟩ (fun _ _ h => h) ?_
 rintro l k s2 u ⟨hk, hkm, hl⟩
 refine Tr.seq ?_
 refine Tr.seq ?_
 refine Tr.reg0 ?_
 refine Ch.op rfl rfl (by decide) (ok_move rfl (vl rfl)) ?_
 refine Ch.op rfl rfl (by decide) (ok_int rfl (vl rfl) (vl rfl) rfl) ?_
 refine Ch.nil ?_
 refine Fin.go ?_
 refine Tr.cond rfl (fun h1 => ?_) (fun h1 => ?_)
 ·
  have q1 := Nrm.nrm h1
  have hk0 : k > 0 := of_decide_eq_true h1
  refine Tr.skip ?_
  refine Fin.go ?_
  refine Tr.seq ?_
  refine Tr.block ?_
  refine Tr.regT ?_
  refine TO.op rfl rfl (by decide) (ok_move rfl (vl rfl)) ?_
  refine TO.op rfl rfl (by decide) (ok_move rfl (vl rfl)) ?_
  refine TO.efc 1 rfl rfl (by decide) (ef_callc rfl rfl (by decide) rfl (w_Finding) ⟨⟨_, rfl, Pr.le_refl _⟩, trivial⟩) ?_
  refine TO.ex 19 rfl (fun z1 => TO.fact 19 rfl fun hz1 => ?_)
  refine TO.op rfl rfl (by decide) (ok_buildSlice (xs := [.tmp 19]) (rows := [_]) rfl rfl Tryz.underlying27 sz42 z42 rfl (by decide) ⟨⟨(by exact rfl), (VL.le (vl rfl) (agg_cellsP _))⟩, trivial⟩ (by decide)) ?_
  refine TO.efs 0 rfl rfl (by decide) (ef_append rfl rfl (by decide) rfl Tryz.underlying27 sz42 by42 z42 rfl (by decide) ⟨_, rfl, andIs_le _ _⟩ ⟨_, rfl, full_le _ _⟩ (by simp only [List.length_map, List.length_append, List.length_cons, List.length_nil]; unfold maxLen; omega) (by simp only [List.length_map, List.length_append, List.length_cons, List.length_nil]; omega) (appR_is (by exact List.Mem.head _) ⟨_, rfl, andIs_is _ _⟩)) (fun v1 => ?_)
  refine TO.op rfl rfl (by decide) (ok_assign rfl (vl rfl)) ?_
  refine TO.nil ?_
  refine Fin.openD 1 rfl (fun s1 => ?_)
  refine Fin.block ?_
  refine Fin.go ?_
  refine Tr.reg0 ?_
  refine Ch.op rfl rfl (by decide) (ok_move rfl (vl rfl)) ?_
  first
   | (refine Ch.op rfl rfl (by decide) (ok_sub rfl (vl rfl) (vl rfl) ?hin) ?_; case hin => unfold InI; omega)
   | refine Ch.op rfl rfl (by decide) (ok_int rfl (vl rfl) (vl rfl) rfl) ?_
  refine Ch.op rfl rfl (by decide) (ok_assign rfl (vl rfl)) ?_
  refine Ch.nil ?_
  exact Fin.famD3V1 (l ++ [z1]) (k - 1) (_) v1 (⟨⟨by omega, by simp; omega, all_snocF hl hz1⟩, by omega⟩) ⟨⟨_, rfl, Pr.le_refl _⟩, ⟨_, rfl, own_le (by rw [List.map_append]; rfl)⟩, ⟨_, rfl, Pr.le_refl _⟩, trivial⟩ (fun _ _ h => h)
 ·
  have q1 := Nrm.nrm h1
  have hk0 : ¬ k > 0 := of_decide_eq_false h1
  refine Tr.exit ?_
  refine Fin.then_exit ?_
  refine Fin.then_exit ?_
  refine Fin.block_here ?_
  refine Fin.go ?_
  refine Tr.seq ?_
  refine Tr.reg0 ?_
  refine Ch.op rfl rfl (by decide) (ok_move rfl (vl rfl)) ?_
  refine Ch.op rfl rfl (by decide) (ok_call rfl (w_R14Norm (l := l) (fun f hf => (hl f hf).check) (by omega)) ⟨⟨_, rfl, andIs_le _ _⟩, trivial⟩) ?_
  refine Ch.op rfl rfl (by decide) (ok_move rfl (vl rfl)) ?_
  refine Ch.op rfl rfl (by decide) (ok_extract rfl (vl rfl) rfl) ?_
  refine Ch.op rfl rfl (by decide) (ok_extract rfl (vl rfl) rfl) ?_
  refine Ch.op rfl rfl (by decide) (ok_assign rfl (vl rfl)) ?_
  refine Ch.op rfl rfl (by decide) (ok_assign rfl (vl rfl)) ?_
  refine Ch.nil ?_
  refine Fin.go ?_
  refine Tr.seq ?_
  refine Tr.reg0 ?_
  refine Ch.op rfl rfl (by decide) (ok_move rfl (vl rfl)) ?_
  refine Ch.op rfl rfl (by decide) (ok_assign rfl (vl rfl)) ?_
  refine Ch.nil ?_
  refine Fin.go ?_
  refine Tr.weak [(4, _)] ⟨⟨_, rfl, Pr.le_refl _⟩, trivial⟩ ?_
  refine Tr.ret ?_
  refine Fin.closeD 1 _ rfl rfl ?_
  refine Fin.retY1 [_] rfl (RVal.tmp rfl (Pr.le_refl _)) ?_ (fun _ _ _ _ => rfl)
  · exact ex_in (l.foldl putF []) (fact_in (good_fold hl (by omega)) (Pr.le_refl _))
end Go.Proofs.YthmnoekgicggnaaGreat
namespace Cp
open Go Go.RowKit Go.Great

abbrev unit_ : Pr := is (.tuple #[])
section
variable {P : Program} {n : Nat} {E : Env} {M0 : Av} {w0 : World} {S : Nat → Prop} {rs : List Res} {o : Oper} {g : Func} {M1 : Av} {w1 : World}
theorem results0 {g : Func} {a : Act} {w : World} (hr : g.results = #[]) : (results g a.tmps).run P w = .ok (.tuple #[]) w := by
  rw [results_rv, hr]; simp [Sem.run_bind]
theorem Fin.ret0 (hr : g.results = #[]) : Fin n E (Hp M0 w0 noS rs) (bodyPost P g (Back M0 w0 unit_)) .normal := by
  rintro a w ⟨M, _, hd, he, hi⟩
  obtain ⟨h1, h2⟩ := OutW.bse M0 w0 M w hi
  exact ⟨hd, _, results0 hr, _, rfl, rfl, h2⟩
theorem Fin.ret0r (hr : g.results = #[]) : Fin n E (Hp M0 w0 noS rs) (bodyPost P g (Back M0 w0 unit_)) .ret := by
  rintro a w ⟨M, _, hd, he, hi⟩
  obtain ⟨h1, h2⟩ := OutW.bse M0 w0 M w hi
  exact ⟨hd, _, results0 hr, _, rfl, rfl, h2⟩
theorem Fin.retM0 {r : Res} (hr : g.results = #[]) : Fin n E (Hp M0 w0 S (r :: extRes M1 w1 :: rs)) (bodyPost P g (BackM M0 w0 S rs M1 w1 unit_ (fun _ => r))) .normal := by
  rintro a w ⟨M, _, hd, he, hi⟩
  obtain ⟨h1, h2⟩ := outM hi
  exact ⟨hd, _, results0 hr, _, M, rfl, rfl, h1, h2⟩

/-- The operands, where one slice may be of ours. -/
def ValsO (E : Env) (v0 : Value) (q0 : Pr) : List Operand → List Pr → Prop
  | [], [] => True
  | x :: xs, p :: ps => (VL E x p ∨ (VL E x (is v0) ∧ Pr.le (andIs v0 q0) p)) ∧ ValsO E v0 q0 xs ps
  | _, _ => False
theorem ValsO.ev {M M' : Av} {w : World} {a : Act} {v0 : Value} {q0 : Pr} (he : EnvFor M w E o a) (hx : Ext M w M' w) (h0 : q0.h M' w v0) : ∀ {xs : List Operand} {ps : List Pr}, (∀ x ∈ xs, x ∈ o.op.operands.toList) → ValsO E v0 q0 xs ps → HL M' w ps (xs.map a.eval)
  | [], [], _, _ => trivial
  | [], _ :: _, _, h => h.elim
  | _ :: _, [], _, h => h.elim
  | x :: xs, p :: ps, hm, h => by
    refine ⟨?_, ValsO.ev he hx h0 (fun y hy => hm y (List.mem_cons_of_mem _ hy)) h.2⟩
    rcases h.1 with h1 | ⟨h1, h2⟩
    · exact p.st _ _ _ _ _ hx (h1.ev he (hm x (by simp)))
    · have h3 : a.eval x = v0 := h1.ev he (hm x (by simp))
      exact h2 _ _ _ ⟨h3, by rw [h3]; exact h0⟩
/-- Memory is not read by this. -/
class Free (p : Pr) : Prop where
  free : ∀ M M' w v, p.h M w v → p.h M' w v
instance free_is (u : Value) : Free (is u) := ⟨fun _ _ _ _ h => h⟩
instance free_lens (m : Nat) : Free (lens m) := ⟨fun _ _ _ _ h => h⟩
end
end Cp
namespace Go.Proofs.YthmnoekgicggnaaGreat
open Go Go.RowKit Cp

def Asc (l : List Int) : Prop := ∀ (j : Nat) x y, l[j]? = some x → l[j + 1]? = some y → x < y
theorem pred_int {l : List Int} {i : Int} {x : Int} (h0 : 0 < i) (h : l[(i - 1).toNat]? = some x) : (l.map fun n => [int n])[(i - 1).toNat]? = some [int x] := by
  rw [List.getElem?_map, h]; rfl
theorem at_int {l : List Int} {i : Int} {x : Int} (h : l[i.toNat]? = some x) : (l.map fun n => [int n])[i.toNat]? = some [int x] := by
  rw [List.getElem?_map, h]; rfl
theorem asc_at {l : List Int} (h : Asc l) {i x p : Int} (h0 : 0 < i) (hp : l[(i - 1).toNat]? = some p) (hx : l[i.toNat]? = some x) : p < x :=
  h (i - 1).toNat p x hp (by rw [show (i - 1).toNat + 1 = i.toNat by omega]; exact hx)

set_option maxRecDepth 20000 in
theorem w_lessI {a b : Int}  : Fun Tryz.prog 131 [int a, int b] (bool (decide (a < b))) := by
 refine Fun.of Tryz.func131 rfl rfl (by exact Nat.le_of_ble_eq_true rfl) fun M0 w0 => ?_
 refine Tr.seq ?_
 refine Tr.reg0 ?_
 refine Ch.op rfl rfl (by decide) (ok_assign rfl (vl rfl)) ?_
 refine Ch.nil ?_
 refine Fin.go ?_
 refine Tr.seq ?_
 refine Tr.reg0 ?_
 refine Ch.op rfl rfl (by decide) (ok_move rfl (vl rfl)) ?_
 refine Ch.op rfl rfl (by decide) (ok_call rfl (w_isNaNI) ⟨⟨_, rfl, Pr.le_refl _⟩, trivial⟩) ?_
 refine Ch.op rfl rfl (by decide) (ok_move rfl (vl rfl)) ?_
 refine Ch.cases 7 rfl (fun h1 => ?_) (fun h1 => ?_)
 ·
  have q1 := Nrm.nrm h1
  exact absurd h1 (by decide)
 ·
  have q1 := Nrm.nrm h1
  refine Ch.no rfl rfl rfl (ne_true h1) rfl (by decide) ?_
  refine Ch.no rfl rfl rfl (ne_true h1) rfl (by decide) ?_
  refine Ch.no rfl rfl rfl (ne_true h1) rfl (by decide) ?_
  refine Ch.op rfl rfl (by decide) (ok_pick_f rfl (vl rfl) h1 (vl rfl)) ?_
  refine Ch.op rfl rfl (by decide) (ok_move rfl (vl rfl)) ?_
  refine Ch.yes rfl rfl rfl rfl rfl (by decide) (ok_move rfl (vl rfl)) ?_
  refine Ch.yes rfl rfl rfl rfl rfl (by decide) (ok_move rfl (vl rfl)) ?_
  refine Ch.yes rfl rfl rfl rfl rfl (by decide) (ok_int rfl (vl rfl) (vl rfl) rfl) ?_
  refine Ch.op rfl rfl (by decide) (ok_pick_f rfl (vl rfl) rfl (vl rfl)) ?_
  refine Ch.op rfl rfl (by decide) (ok_assign rfl (vl rfl)) ?_
  refine Ch.nil ?_
  refine Fin.go ?_
  refine Tr.weak [(4, _)] ⟨⟨_, rfl, Pr.le_refl _⟩, trivial⟩ ?_
  refine Tr.ret ?_
  refine Fin.ret1 rfl (OutW.bse _ _) rfl ?_
  · first | exact Pr.le_refl _ | (refine int_eq ?_; simp_all; done) | (refine bool_eq ?_; simp_all; done) | (refine bool_eq ?_; simp_all; omega) | (refine int_eq ?_; omega)
set_option maxRecDepth 20000 in
theorem w_Len64 {x : Int} (h0 : 0 ≤ x) (h1 : x < 256) : Fun Tryz.prog 114 [is (.int .u64 x)] (ex fun k : Int => int k) := by
 refine Fun.of Tryz.func114 rfl rfl (by exact Nat.le_of_ble_eq_true rfl) fun M0 w0 => ?_
 have hw : IntKind.u8.wrap x = x := IntWalk.u8_in x ⟨by omega, by omega⟩
 refine Tr.seq ?_
 refine Tr.reg0 ?_
 refine Ch.op rfl rfl (by decide) (ok_assign rfl (vl rfl)) ?_
 refine Ch.nil ?_
 refine Fin.go ?_
 refine Tr.seq ?_
 refine Tr.seq ?_
 refine Tr.reg0 ?_
 refine Ch.op rfl rfl (by decide) (ok_move rfl (vl rfl)) ?_
 refine Ch.op rfl rfl (by decide) (ok_int rfl (vl rfl) (vl rfl) rfl) ?_
 refine Ch.nil ?_
 refine Fin.go ?_
 refine Tr.cond rfl (fun h1 => ?_) (fun h1 => ?_)
 ·
  have q1 := Nrm.nrm h1
  exfalso; omega
 ·
  have q1 := Nrm.nrm h1
  refine Tr.skip ?_
  refine Fin.go ?_
  refine Tr.seq ?_
  refine Tr.seq ?_
  refine Tr.reg0 ?_
  refine Ch.op rfl rfl (by decide) (ok_move rfl (vl rfl)) ?_
  refine Ch.op rfl rfl (by decide) (ok_int rfl (vl rfl) (vl rfl) rfl) ?_
  refine Ch.nil ?_
  refine Fin.go ?_
  refine Tr.cond rfl (fun h2 => ?_) (fun h2 => ?_)
  ·
   have q2 := Nrm.nrm h2
   exfalso; omega
  ·
   have q2 := Nrm.nrm h2
   refine Tr.skip ?_
   refine Fin.go ?_
   refine Tr.seq ?_
   refine Tr.seq ?_
   refine Tr.reg0 ?_
   refine Ch.op rfl rfl (by decide) (ok_move rfl (vl rfl)) ?_
   refine Ch.op rfl rfl (by decide) (ok_int rfl (vl rfl) (vl rfl) rfl) ?_
   refine Ch.nil ?_
   refine Fin.go ?_
   refine Tr.cond rfl (fun h3 => ?_) (fun h3 => ?_)
   ·
    have q3 := Nrm.nrm h3
    exfalso; omega
   ·
    have q3 := Nrm.nrm h3
    refine Tr.skip ?_
    refine Fin.go ?_
    refine Tr.seq ?_
    refine Tr.reg0 ?_
    refine Ch.op rfl rfl (by decide) (ok_move rfl (vl rfl)) ?_
    refine Ch.op rfl rfl (by decide) (ok_move rfl (vl rfl)) ?_
    first
     | refine Ch.op rfl rfl (by decide) (ok_convI rfl Tryz.underlying138 Tryz.underlying5 (vl rfl) (by unfold InI; omega)) ?_
     | refine Ch.op rfl rfl (by decide) (ok_conv rfl Tryz.underlying138 Tryz.underlying5 (vl rfl)) ?_
    refine Ch.op rfl rfl (by decide) (ok_sidx rfl Tryz.underlying9 (vl rfl) (vl rfl) (by omega) (List.getElem?_eq_getElem (by show _ < 256; omega))) ?_
    first
     | refine Ch.op rfl rfl (by decide) (ok_convI rfl Tryz.underlying5 Tryz.underlying3 (vl rfl) (by unfold InI; omega)) ?_
     | refine Ch.op rfl rfl (by decide) (ok_conv rfl Tryz.underlying5 Tryz.underlying3 (vl rfl)) ?_
    first
     | (refine Ch.op rfl rfl (by decide) (ok_add rfl (vl rfl) (vl rfl) ?hin) ?_; case hin => unfold InI; omega)
     | refine Ch.op rfl rfl (by decide) (ok_int rfl (vl rfl) (vl rfl) rfl) ?_
    refine Ch.op rfl rfl (by decide) (ok_assign rfl (vl rfl)) ?_
    refine Ch.nil ?_
    refine Fin.go ?_
    refine Tr.weak [(2, _)] ⟨⟨_, rfl, Pr.le_refl _⟩, trivial⟩ ?_
    refine Tr.ret ?_
    refine Fin.ret1 rfl (OutW.bse _ _) rfl ?_
    · exact ex_in _ (Pr.le_refl _)
set_option maxRecDepth 20000 in
theorem w_BLen {x : Int} (h0 : 0 ≤ x) (h1 : x < 256) : Fun Tryz.prog 66 [is (.int .u64 x)] (ex fun k : Int => int k) := by
 refine Fun.of Tryz.func66 rfl rfl (by exact Nat.le_of_ble_eq_true rfl) fun M0 w0 => ?_
 refine Tr.seq ?_
 refine Tr.reg0 ?_
 refine Ch.op rfl rfl (by decide) (ok_assign rfl (vl rfl)) ?_
 refine Ch.nil ?_
 refine Fin.go ?_
 refine Tr.seq ?_
 refine Tr.cond rfl (fun h => nomatch h) (fun _ => ?_)
 refine Tr.skip ?_
 refine Fin.go ?_
 refine Tr.seq ?_
 refine Tr.reg0 ?_
 refine Ch.op rfl rfl (by decide) (ok_move rfl (vl rfl)) ?_
 refine Ch.op rfl rfl (by decide) (ok_call rfl (w_Len64 (by omega) (by omega)) ⟨⟨_, rfl, Pr.le_refl _⟩, trivial⟩) ?_
 refine Ch.op rfl rfl (by decide) (ok_assign rfl (vl rfl)) ?_
 refine Ch.nil ?_
 refine Fin.go ?_
 refine Tr.ret ?_
 refine Fin.ret1 rfl (OutW.bse _ _) rfl ?_
 · first | exact Pr.le_refl _ | (refine int_eq ?_; simp_all; done) | (refine bool_eq ?_; simp_all; done) | (refine bool_eq ?_; simp_all; omega) | (refine int_eq ?_; omega)
set_option maxRecDepth 20000 in
theorem w_insAsc {l : List Int} {a b : Int} (hl : Asc l) (h0 : 0 ≤ a) (hb : b ≤ l.length) (hab : a ≤ b) (hs : l.length ≤ 1000000) : Fun Tryz.prog 125 [ints l, int a, int b] (unit_) := by
 refine Fun.of Tryz.func125 rfl rfl (by exact Nat.le_of_ble_eq_true rfl) fun M0 w0 => ?_
 refine Tr.seq ?_
 refine Tr.reg0 ?_
 refine Ch.op rfl rfl (by decide) (ok_move rfl (vl rfl)) ?_
 first
  | (refine Ch.op rfl rfl (by decide) (ok_add rfl (vl rfl) (vl rfl) ?hin) ?_; case hin => unfold InI; omega)
  | refine Ch.op rfl rfl (by decide) (ok_int rfl (vl rfl) (vl rfl) rfl) ?_
 refine Ch.op rfl rfl (by decide) (ok_assign rfl (vl rfl)) ?_
 refine Ch.nil ?_
 refine Fin.go ?_
 refine Tr.block ?_
 refine Tr.loopw [(0, _), (1, _), (2, _)] ⟨⟨_, rfl, Pr.le_refl _⟩, ⟨_, rfl, Pr.le_refl _⟩, ⟨_, rfl, Pr.le_refl _⟩, trivial⟩ (fun i : Int => [(6, int i)]) (fun i : Int => a < i ∧ i ≤ b + 1) (fun i : Int => (b - i).toNat) (a + 1) (⟨by omega, by omega⟩) ⟨⟨_, rfl, Pr.le_refl _⟩, trivial⟩ ?_
 rintro i ⟨hi1, hi2⟩
 refine Tr.seq ?_
 refine Tr.seq ?_
 refine Tr.reg0 ?_
 refine Ch.op rfl rfl (by decide) (ok_move rfl (vl rfl)) ?_
 refine Ch.op rfl rfl (by decide) (ok_move rfl (vl rfl)) ?_
 refine Ch.op rfl rfl (by decide) (ok_int rfl (vl rfl) (vl rfl) rfl) ?_
 refine Ch.nil ?_
 refine Fin.go ?_
 refine Tr.cond rfl (fun h1 => ?_) (fun h1 => ?_)
 ·
  have q1 := Nrm.nrm h1
  have hib : i < b := of_decide_eq_true h1
  refine Tr.skip ?_
  refine Fin.go ?_
  refine Tr.seq ?_
  refine Tr.block ?_
  refine Tr.seq ?_
  refine Tr.reg0 ?_
  refine Ch.op rfl rfl (by decide) (ok_move rfl (vl rfl)) ?_
  refine Ch.op rfl rfl (by decide) (ok_assign rfl (vl rfl)) ?_
  refine Ch.nil ?_
  refine Fin.go ?_
  refine Tr.block ?_
  refine Tr.loopw [(0, _), (1, _), (2, _), (6, _)] ⟨⟨_, rfl, Pr.le_refl _⟩, ⟨_, rfl, Pr.le_refl _⟩, ⟨_, rfl, Pr.le_refl _⟩, ⟨_, rfl, Pr.le_refl _⟩, trivial⟩ (fun j : Int => [(7, int j)]) (fun j : Int => j = i) (fun j : Int => 0) i (rfl) ⟨⟨_, rfl, Pr.le_refl _⟩, trivial⟩ ?_
  rintro j hj
  refine Tr.seq ?_
  refine Tr.seq ?_
  refine Tr.reg1 mixed (by kernel_rfl) ?_
  refine Ch.op rfl rfl (by decide) (ok_move rfl (vl rfl)) ?_
  refine Ch.op rfl rfl (by decide) (ok_move rfl (vl rfl)) ?_
  refine Ch.op rfl rfl (by decide) (ok_int rfl (vl rfl) (vl rfl) rfl) ?_
  refine Ch.op rfl rfl (by decide) (ok_move rfl (vl rfl)) ?_
  refine Ch.cases 19 rfl (fun h2 => ?_) (fun h2 => ?_)
  ·
   have q2 := Nrm.nrm h2
   obtain ⟨x, hx⟩ := at_ (l := l) (k := j.toNat) (by omega)
   obtain ⟨p, hp⟩ := at_ (l := l) (k := (j - 1).toNat) (by omega)
   have hpx := asc_at hl (by omega) hp hx
   refine Ch.yes rfl rfl rfl h2 rfl (by decide) (ok_move rfl (vl rfl)) ?_
   refine Ch.yes rfl rfl rfl h2 rfl (by decide) (ok_move rfl (vl rfl)) ?_
   refine Ch.yes rfl rfl rfl h2 rfl (by decide) (ok_indexAddr rfl Tryz.underlying22 sz3 (vl rfl) (vl rfl) (by omega) (at_int hx)) ?_
   refine Ch.yes rfl rfl rfl h2 rfl (by decide) (ok_load1 rfl one3 (vl rfl)) ?_
   refine Ch.yes rfl rfl rfl h2 rfl (by decide) (ok_move rfl (vl rfl)) ?_
   refine Ch.yes rfl rfl rfl h2 rfl (by decide) (ok_move rfl (vl rfl)) ?_
   first
    | (refine Ch.yes rfl rfl rfl h2 rfl (by decide) (ok_sub rfl (vl rfl) (vl rfl) ?hin) ?_; case hin => unfold InI; omega)
    | refine Ch.yes rfl rfl rfl h2 rfl (by decide) (ok_int rfl (vl rfl) (vl rfl) rfl) ?_
   refine Ch.yes rfl rfl rfl h2 rfl (by decide) (ok_indexAddr rfl Tryz.underlying22 sz3 (vl rfl) (vl rfl) (by omega) (pred_int (by omega) hp)) ?_
   refine Ch.yes rfl rfl rfl h2 rfl (by decide) (ok_load1 rfl one3 (vl rfl)) ?_
   refine Ch.yes rfl rfl rfl h2 rfl (by decide) (ok_call rfl (w_lessI) ⟨⟨_, rfl, Pr.le_refl _⟩, ⟨_, rfl, Pr.le_refl _⟩, trivial⟩) ?_
   refine Ch.op rfl rfl (by decide) (ok_pick_t rfl (vl rfl) h2 (vl rfl)) ?_
   refine Ch.nil ?_
   refine Fin.go ?_
   refine Tr.weak [(0, _), (1, _), (2, _), (6, _), (7, _), (30, _)] ⟨⟨_, rfl, Pr.le_refl _⟩, ⟨_, rfl, Pr.le_refl _⟩, ⟨_, rfl, Pr.le_refl _⟩, ⟨_, rfl, Pr.le_refl _⟩, ⟨_, rfl, Pr.le_refl _⟩, ⟨_, rfl, Pr.le_refl _⟩, trivial⟩ ?_
   refine Tr.cond rfl (fun h3 => ?_) (fun h3 => ?_)
   ·
    have q3 := Nrm.nrm h3
    have := h3
    exfalso; omega
   ·
    have q3 := Nrm.nrm h3
    have := h3
    refine Tr.exit ?_
    refine Fin.then_exit ?_
    refine Fin.then_exit ?_
    refine Fin.block_here ?_
    refine Fin.block ?_
    refine Fin.go ?_
    refine Tr.reg0 ?_
    refine Ch.op rfl rfl (by decide) (ok_move rfl (vl rfl)) ?_
    first
     | (refine Ch.op rfl rfl (by decide) (ok_add rfl (vl rfl) (vl rfl) ?hin) ?_; case hin => unfold InI; omega)
     | refine Ch.op rfl rfl (by decide) (ok_int rfl (vl rfl) (vl rfl) rfl) ?_
    refine Ch.op rfl rfl (by decide) (ok_assign rfl (vl rfl)) ?_
    refine Ch.nil ?_
    exact Fin.fam_same (i + 1) ⟨⟨by omega, by omega⟩, by omega⟩ ⟨⟨_, rfl, Pr.le_refl _⟩, ⟨_, rfl, Pr.le_refl _⟩, ⟨_, rfl, Pr.le_refl _⟩, ⟨_, rfl, Pr.le_refl _⟩, trivial⟩
  ·
   have q2 := Nrm.nrm h2
   refine Ch.no rfl rfl rfl (ne_true h2) rfl (by decide) ?_
   refine Ch.no rfl rfl rfl (ne_true h2) rfl (by decide) ?_
   refine Ch.no rfl rfl rfl (ne_true h2) rfl (by decide) ?_
   refine Ch.no rfl rfl rfl (ne_true h2) rfl (by decide) ?_
   refine Ch.no rfl rfl rfl (ne_true h2) rfl (by decide) ?_
   refine Ch.no rfl rfl rfl (ne_true h2) rfl (by decide) ?_
   refine Ch.no rfl rfl rfl (ne_true h2) rfl (by decide) ?_
   refine Ch.no rfl rfl rfl (ne_true h2) rfl (by decide) ?_
   refine Ch.no rfl rfl rfl (ne_true h2) rfl (by decide) ?_
   refine Ch.no rfl rfl rfl (ne_true h2) rfl (by decide) ?_
   refine Ch.op rfl rfl (by decide) (ok_pick_f rfl (vl rfl) h2 (vl rfl)) ?_
   refine Ch.nil ?_
   refine Fin.go ?_
   refine Tr.weak [(0, _), (1, _), (2, _), (6, _), (7, _), (30, _)] ⟨⟨_, rfl, Pr.le_refl _⟩, ⟨_, rfl, Pr.le_refl _⟩, ⟨_, rfl, Pr.le_refl _⟩, ⟨_, rfl, Pr.le_refl _⟩, ⟨_, rfl, Pr.le_refl _⟩, ⟨_, rfl, Pr.le_refl _⟩, trivial⟩ ?_
   refine Tr.cond rfl (fun h => nomatch h) (fun _ => ?_)
   refine Tr.exit ?_
   refine Fin.then_exit ?_
   refine Fin.then_exit ?_
   refine Fin.block_here ?_
   refine Fin.block ?_
   refine Fin.go ?_
   refine Tr.reg0 ?_
   refine Ch.op rfl rfl (by decide) (ok_move rfl (vl rfl)) ?_
   first
    | (refine Ch.op rfl rfl (by decide) (ok_add rfl (vl rfl) (vl rfl) ?hin) ?_; case hin => unfold InI; omega)
    | refine Ch.op rfl rfl (by decide) (ok_int rfl (vl rfl) (vl rfl) rfl) ?_
   refine Ch.op rfl rfl (by decide) (ok_assign rfl (vl rfl)) ?_
   refine Ch.nil ?_
   exact Fin.fam_same (i + 1) ⟨⟨by omega, by omega⟩, by omega⟩ ⟨⟨_, rfl, Pr.le_refl _⟩, ⟨_, rfl, Pr.le_refl _⟩, ⟨_, rfl, Pr.le_refl _⟩, ⟨_, rfl, Pr.le_refl _⟩, trivial⟩
 ·
  have q1 := Nrm.nrm h1
  have := h1
  refine Tr.exit ?_
  refine Fin.then_exit ?_
  refine Fin.then_exit ?_
  refine Fin.block_here ?_
  exact Fin.ret0 rfl
set_option maxRecDepth 20000 in
theorem w_pdqAsc {l : List Int} {a b : Int} (hl : Asc l) (h0 : 0 ≤ a) (hb : b ≤ l.length) (hab : a ≤ b) (hs : b - a ≤ 12) (hs2 : l.length ≤ 1000000) : Fun Tryz.prog 87 [ints l, int a, int b, any] (unit_) := by
 refine Fun.of Tryz.func87 rfl rfl (by exact Nat.le_of_ble_eq_true rfl) fun M0 w0 => ?_
 refine Tr.seq ?_
 refine Tr.reg0 ?_
 refine Ch.op rfl rfl (by decide) (ok_assign rfl (vl rfl)) ?_
 refine Ch.nil ?_
 refine Fin.go ?_
 refine Tr.seq ?_
 refine Tr.reg0 ?_
 refine Ch.op rfl rfl (by decide) (ok_assign rfl (vl rfl)) ?_
 refine Ch.nil ?_
 refine Fin.go ?_
 refine Tr.block ?_
 refine Tr.loopw [(0, _)] ⟨⟨_, rfl, Pr.le_refl _⟩, trivial⟩ (fun (u : Unit) => [(1, int a), (2, int b)]) (fun (u : Unit) => True) (fun (u : Unit) => 0) () (trivial) ⟨⟨_, rfl, Pr.le_refl _⟩, ⟨_, rfl, Pr.le_refl _⟩, trivial⟩ ?_
 rintro u _
 refine Tr.block ?_
 refine Tr.seq ?_
 refine Tr.reg0 ?_
 refine Ch.op rfl rfl (by decide) (ok_move rfl (vl rfl)) ?_
 refine Ch.op rfl rfl (by decide) (ok_move rfl (vl rfl)) ?_
 first
  | (refine Ch.op rfl rfl (by decide) (ok_sub rfl (vl rfl) (vl rfl) ?hin) ?_; case hin => unfold InI; omega)
  | refine Ch.op rfl rfl (by decide) (ok_int rfl (vl rfl) (vl rfl) rfl) ?_
 refine Ch.op rfl rfl (by decide) (ok_assign rfl (vl rfl)) ?_
 refine Ch.nil ?_
 refine Fin.go ?_
 refine Tr.seq ?_
 refine Tr.seq ?_
 refine Tr.reg0 ?_
 refine Ch.op rfl rfl (by decide) (ok_move rfl (vl rfl)) ?_
 refine Ch.op rfl rfl (by decide) (ok_int rfl (vl rfl) (vl rfl) rfl) ?_
 refine Ch.nil ?_
 refine Fin.go ?_
 refine Tr.cond rfl (fun h1 => ?_) (fun h1 => ?_)
 ·
  have q1 := Nrm.nrm h1
  refine Tr.seq ?_
  refine Tr.reg0 ?_
  refine Ch.op rfl rfl (by decide) (ok_move rfl (vl rfl)) ?_
  refine Ch.op rfl rfl (by decide) (ok_move rfl (vl rfl)) ?_
  refine Ch.op rfl rfl (by decide) (ok_move rfl (vl rfl)) ?_
  refine Ch.op rfl rfl (by decide) (ok_call rfl (w_insAsc (by assumption) (by omega) (by omega) (by omega) (by omega)) ⟨⟨_, rfl, Pr.le_refl _⟩, ⟨_, rfl, Pr.le_refl _⟩, ⟨_, rfl, Pr.le_refl _⟩, trivial⟩) ?_
  refine Ch.nil ?_
  refine Fin.go ?_
  refine Tr.ret ?_
  refine Fin.then_ret ?_
  refine Fin.block_ret ?_
  refine Fin.then_ret ?_
  refine Fin.block_ret ?_
  exact Fin.ret0r rfl
 ·
  have q1 := Nrm.nrm h1
  exfalso; omega
set_option maxRecDepth 20000 in
theorem w_SortAsc {l : List Int} (hl : Asc l) (hs : l.length ≤ 12) : Fun Tryz.prog 61 [ints l] (unit_) := by
 refine Fun.of Tryz.func61 rfl rfl (by exact Nat.le_of_ble_eq_true rfl) fun M0 w0 => ?_
 have hw : IntKind.u64.wrap ((l.length : Nat) : Int) = l.length := IntWalk.u64_in _ ⟨by omega, by omega⟩
 refine Tr.seq ?_
 refine Tr.reg0 ?_
 refine Ch.op rfl rfl (by decide) (ok_move rfl (vl rfl)) ?_
 first
  | refine Ch.op rfl rfl (by decide) (ok_lenm rfl Tryz.underlying22 (vl rfl)) ?_
  | refine Ch.op rfl rfl (by decide) (ok_len rfl Tryz.underlying22 (vl rfl)) ?_
 refine Ch.op rfl rfl (by decide) (ok_assign rfl (vl rfl)) ?_
 refine Ch.nil ?_
 refine Fin.go ?_
 refine Tr.reg0 ?_
 refine Ch.op rfl rfl (by decide) (ok_move rfl (vl rfl)) ?_
 refine Ch.op rfl rfl (by decide) (ok_move rfl (vl rfl)) ?_
 refine Ch.op rfl rfl (by decide) (ok_move rfl (vl rfl)) ?_
 first
  | refine Ch.op rfl rfl (by decide) (ok_convI rfl Tryz.underlying3 Tryz.underlying105 (vl rfl) (by unfold InI; omega)) ?_
  | refine Ch.op rfl rfl (by decide) (ok_conv rfl Tryz.underlying3 Tryz.underlying105 (vl rfl)) ?_
 refine Ch.op rfl rfl (by decide) (ok_call rfl (w_BLen (by omega) (by omega)) ⟨⟨_, rfl, Pr.le_refl _⟩, trivial⟩) ?_
 refine Ch.op rfl rfl (by decide) (ok_call rfl (w_pdqAsc (l := l) (a := 0) (b := (l.length : Int)) hl (by omega) (by omega) (by omega) (by omega) (by omega)) ⟨⟨_, rfl, Pr.le_refl _⟩, ⟨_, rfl, Pr.le_refl _⟩, ⟨_, rfl, Pr.le_refl _⟩, ⟨_, rfl, le_any _⟩, trivial⟩) ?_
 refine Ch.nil ?_
 exact Fin.ret0 rfl
theorem asc_ne {l : List Int} (h : Asc l) {k : Nat} {x p : Int} (hk : 0 < k) (hp : l[k - 1]? = some p) (hx : l[k]? = some x) : p < x := h (k - 1) p x hp (by rw [show k - 1 + 1 = k by omega]; exact hx)
theorem pred_ints {l : List Int} {k : Nat} {x : Int} (h : l[k - 1]? = some x) (h0 : 0 < k) : (l.map fun n => [int n])[(((k : Nat) : Int) - 1).toNat]? = some [int x] := by
  rw [show (((k : Nat) : Int) - 1).toNat = k - 1 by omega, List.getElem?_map, h]; rfl

end Go.Proofs.YthmnoekgicggnaaGreat
namespace Cp
open Go Go.RowKit Go.Great

/-- A map's entries, in the order in which they came. -/
def mkE (es : List (Value × Value)) : Array MapEntry := (es.zipIdx.map fun p => ({ key := p.1.1, val := p.1.2, born := p.2 } : MapEntry)).toArray
theorem mkE_at (es : List (Value × Value)) (i : Nat) : (mkE es)[i]? = (es[i]?).map fun p => { key := p.1, val := p.2, born := i } := by
  simp [mkE, List.getElem?_zipIdx]
  cases es[i]? <;> simp
theorem mkE_push (es : List (Value × Value)) (k v : Value) : (mkE es).push { key := k, val := v, born := es.length } = mkE (es ++ [(k, v)]) := by
  apply Array.toList_inj.1
  simp [mkE, List.zipIdx_append]
theorem mkE_set {es : List (Value × Value)} {i : Nat} (h : i < es.length) (k v : Value) : ((mkE es).modify i fun e => { e with key := k, val := v }) = mkE (es.set i (k, v)) := by
  apply Array.ext_getElem?
  intro j
  rw [Array.getElem?_modify, mkE_at, mkE_at, List.getElem?_set]
  by_cases hj : i = j
  · subst hj
    simp [h]
  · simp [hj]

/-- What the program knows of a map's type: how its keys are compared. -/
structure MapT (P : Program) (T kt et : TypeId) {κ : Type} [DecidableEq κ] (enc : κ → Value) : Prop where
  und : P.underlying T = some (.map kt et)
  zero : ∀ w, (zeroValue et).run P w = .ok (.int .i64 0) w
  eq : ∀ a b w, (Op.equal kt (enc a) (enc b)).run P w = .ok (decide (a = b)) w
  chk : ∀ e a w, (Instr.checkKey e 10000 kt (enc a)).run P w = .ok () w
  und2 : ∃ d, P.underlying kt = some d ∧ ∀ a b, Instr.sameNow d (enc a) (enc b) = none
  bits : ∀ a, Instr.sameBits 10000 (enc a) (enc a) = true

section
variable {P : Program} {n : Nat} {E : Env} {M0 : Av} {w0 : World} {S : Nat → Prop} {rs : List Res} {o : Oper} {κ : Type} [DecidableEq κ] {enc : κ → Value}

abbrev encE (enc : κ → Value) (es : List (κ × Int)) : List (Value × Value) := es.map fun p => (enc p.1, .int .i64 p.2)
def mapR (enc : κ → Value) (b : Nat) (es : List (κ × Int)) : Res where
  blk := some b
  new := true
  h M w := (∀ o, M b o) ∧ w.heap[b]? = some (.map (mkE (encE enc es)) es.length)
  st M w M' w' he hk h := by
    obtain ⟨h1, h2⟩ := hk b rfl
    exact ⟨fun o => h2 o (h.1 o), h1.trans h.2⟩
/-- What a map holds for a key. -/
def look (es : List (κ × Int)) (k : κ) : Option Int := (es.find? fun p => decide (k = p.1)).map (·.2)
def updM (es : List (κ × Int)) (k : κ) (v : Int) : List (κ × Int) := match es.findIdx? fun p => decide (k = p.1) with | some i => es.set i (k, v) | none => es ++ [(k, v)]

theorem find_asking {T kt et : TypeId} (hT : MapT P T kt et enc) (k : κ) (w : World) : ∀ (es : List (κ × Int)) (i c : Nat),
    (Instr.findAsking kt (enc k) ((es.zipIdx c).map fun p => ({ key := enc p.1.1, val := .int .i64 p.1.2, born := p.2 } : MapEntry)) i).run P w = .ok ((es.findIdx? fun p => decide (k = p.1)).bind fun j => (es[j]?).map fun p => (i + j, .int .i64 p.2)) w
  | [], i, c => by simp [Instr.findAsking]
  | p :: es, i, c => by
    rw [List.zipIdx_cons, List.map_cons, Instr.findAsking, Sem.run_bind, hT.eq, Result.andThen_ok]
    by_cases h : k = p.1
    · simp [h, List.findIdx?_cons]
    · rw [if_neg (by simpa using h), find_asking hT k w es (i + 1) (c + 1), List.findIdx?_cons]
      simp only [h, decide_false, Bool.false_eq_true, if_false]
      congr 1
      cases hf : es.findIdx? fun p => decide (k = p.1) with
      | none => simp
      | some j => simp [Nat.add_assoc, Nat.add_comm 1 j]
theorem find_key {T kt et : TypeId} (hT : MapT P T kt et enc) (k : κ) (w : World) (es : List (κ × Int)) :
    (Instr.findKey kt (enc k) (mkE (encE enc es)).toList).run P w = .ok ((es.findIdx? fun p => decide (k = p.1)).bind fun j => (es[j]?).map fun p => (j, .int .i64 p.2)) w := by
  obtain ⟨d, hd, hn⟩ := hT.und2
  have hl : (mkE (encE enc es)).toList = (es.zipIdx 0).map fun p => ({ key := enc p.1.1, val := .int .i64 p.1.2, born := p.2 } : MapEntry) := by
    simp [mkE, encE, List.zipIdx_map]
  rw [hl]
  unfold Instr.findKey
  rw [Sem.run_bind, run_underlying hd, Result.andThen_ok]
  cases es with
  | nil => simp [Instr.findNow]
  | cons p es =>
    have h1 : Instr.findNow d (enc k) (((p :: es).zipIdx 0).map fun p => ({ key := enc p.1.1, val := .int .i64 p.1.2, born := p.2 } : MapEntry)) 0 = none := by
      rw [List.zipIdx_cons, List.map_cons, Instr.findNow, hn]
    rw [h1]
    have := find_asking hT k w (p :: es) 0 0
    simpa using this

theorem HpH.addR {M : Av} {w : World} {obj : Obj} {r : Res} (h : HpH M0 w0 S rs M w) (hb : r.blk = some w.heap.size) (hn : r.new = true) (hr : r.h (fun b o => M b o ∨ b = w.heap.size) (w.alloc obj)) :
    HpH M0 w0 S (r :: rs) (fun b o => M b o ∨ b = w.heap.size) (w.alloc obj) ∧ Ext M w (fun b o => M b o ∨ b = w.heap.size) (w.alloc obj) := by
  have hbl : Below w.heap.size w (w.alloc obj) := (Below.refl _ _).alloc (Nat.le_refl _) _
  have hsz : (w.alloc obj).heap.size = w.heap.size + 1 := by simp
  have he : Ext M w (fun b o => M b o ∨ b = w.heap.size) (w.alloc obj) := by
    have h2 := Ext.below (M := M) hbl
    refine ⟨h2.size, fun a v hc hm => ⟨fun hx => ?_, (h2.keep a v hc hm).2⟩, fun b o ho hp hm => ⟨fun hx => ?_, (h2.obj b o ho hp hm).2⟩⟩
    · rcases hx with hx | hx
      · exact hm hx
      · have := cell_lt hc; omega
    · rcases hx with hx | hx
      · exact hm hx
      · subst hx; simp at ho
  have hI := (Hp M0 w0 S rs).st _ _ _ hbl h
  refine ⟨⟨hI.m0, fun b o hm => .inl (hI.m b o hm), hI.os, hI.tape, hI.output, hI.size, hI.block, fun b o hm => ?_, fun r' hr' => ?_, ?_⟩, he⟩
  · rcases hm with hm | hm
    · exact hI.bd b o hm
    · omega
  · rcases List.mem_cons.1 hr' with rfl | hr'
    · refine ⟨hr, fun b hbk => ?_⟩
      rw [hb] at hbk
      injection hbk with hbk
      subst hbk
      exact ⟨by omega, by rw [hn]; simpa using h.size⟩
    · obtain ⟨h3, h4⟩ := h.hold r' hr'
      exact ⟨r'.st _ _ _ _ he (fun b hbk => ⟨hbl.block b (h4 b hbk).1, fun _ x => .inl x⟩) h3, fun b hbk => ⟨by have := (h4 b hbk).1; omega, (h4 b hbk).2⟩⟩
  · refine List.Pairwise.cons (fun r' hr' b hbk hbk' => ?_) h.nd
    rw [hb] at hbk
    injection hbk with hbk
    have := ((h.hold r' hr').2 b hbk').1
    omega
def setB (w : World) (b : Nat) (o : Obj) : World := { w with heap := w.heap.setIfInBounds b o }
theorem setB_at {w : World} {b : Nat} {o : Obj} (h : b < w.heap.size) : (setB w b o).heap[b]? = some o := by
  show (w.heap.setIfInBounds b o)[b]? = _
  rw [Array.getElem?_setIfInBounds]; simp [h]
theorem setB_other {w : World} {b k : Nat} {o : Obj} (h : k ≠ b) : (setB w b o).heap[k]? = w.heap[k]? := by
  show (w.heap.setIfInBounds b o)[k]? = _
  rw [Array.getElem?_setIfInBounds, if_neg (fun e => h e.symm)]
theorem HpH.setR {M : Av} {w : World} {obj : Obj} {r r' : Res} {j b : Nat} (h : HpH M0 w0 S rs M w) (hj : rs[j]? = some r) (hb : r.blk = some b) (hb' : r'.blk = some b) (hn : r.new = true) (hn' : r'.new = true) (hM : ∀ o, M b o) (hr : r'.h M (setB w b obj)) :
    HpH M0 w0 S (rs.set j r') M (setB w b obj) ∧ Ext M w M (setB w b obj) := by
  have hlt := ((h.hold r (List.mem_of_getElem? hj)).2 b hb).1
  have hsz : (setB w b obj).heap.size = w.heap.size := by simp [setB]
  have he : Ext M w M (setB w b obj) := by
    refine ⟨by omega, fun a v hc hm => ⟨hm, ?_⟩, fun k o ho hp hm => ⟨hm, ?_⟩⟩
    · rw [World.cell?_of_block (w := w) (setB_other (fun e => hm (by rw [e]; exact hM _)))]; exact hc
    · rw [setB_other (fun e => hm (by rw [e]; exact hM _))]; exact ho
  refine ⟨h.replace hj he rfl rfl rfl (fun k _ hk => setB_other (fun e => hk (by rw [hb, e]))) hn (fun _ _ hm _ => hm) (fun k o hm => by rw [hsz]; exact h.bd k o hm) hr hn' (fun k hk => ?_), he⟩
  rw [hb'] at hk
  injection hk with hk
  subst hk
  exact ⟨by omega, .inl hb⟩

variable {Q : Exit → Act → World → Prop} {ops : Array Oper} {r : List Oper}
omit [DecidableEq κ] in
theorem TO.mkmap {d : Nat} {T : TypeId} (enc : κ → Value) (hg : o.guard = none) (hd : o.dst = some d) (hn : d < n) (ho : o.op = .makeMap T none)
    (k : ∀ b, TO P n ops r ((d, is (.map (some b))) :: E) (Hp M0 w0 S (mapR enc b [] :: rs)) Q) : TO P n ops (o :: r) E (Hp M0 w0 S rs) Q :=
  TO.eff hg fun K M w a hsz hdf he hI hK => by
    refine TO.val (v := .map (some w.heap.size)) (w' := w.alloc (.map #[] 0)) ?_ ?_
    · simp [execOp, ho, Instr.makeMap]
    · obtain ⟨h2, h3⟩ := HpH.addR (obj := .map #[] 0) (r := mapR enc w.heap.size []) hI rfl rfl ⟨fun _ => .inr rfl, by rw [heap_alloc_new]; rfl⟩
      refine hK _ _ _ _ (k w.heap.size) ⟨_, by rw [put_size]; exact hsz, by rw [put_defers]; exact hdf, ?_, h2⟩
      intro s p hp
      simp only [List.lookup] at hp
      by_cases hs : s = d
      · subst hs; simp at hp; subst hp; rw [hd, put_same (by rw [hsz]; exact hn)]; rfl
      · rw [show (s == d) = false by simpa using hs] at hp
        rw [hd, put_other hs]
        exact p.st _ _ _ _ _ h3 (he s p hp)
theorem find_at {β : Type} (p : β → Bool) : ∀ l : List β, (l.findIdx? p).bind (fun j => l[j]?) = l.find? p
  | [] => rfl
  | a :: l => by
    have ih := find_at p l
    rw [List.findIdx?_cons, List.find?_cons]
    cases h : p a with
    | true => simp
    | false =>
      simp only [Bool.false_eq_true, if_false]
      rw [← ih]
      cases l.findIdx? p <;> simp
theorem rd_lookup {T kt et : TypeId} {x y : Operand} {b j : Nat} {es : List (κ × Int)} (k : κ) {q : Pr} (hT : MapT P T kt et enc) (ho : o.op = .lookup T x y true) (hx : VL E x (is (.map (some b)))) (hy : VL E y q) (hk : ∀ M w v, q.h M w v → v = enc k) :
    OpRd P M0 w0 S j (SR.c (mapR enc b es)) o E (tup [int ((look es k).getD 0), bool (look es k).isSome]) := by
  intro M w a rs he hI hj
  have h1 : a.eval x = _ := hx.ev he (by simp [ho, Op.operands])
  have h2 : a.eval y = enc k := hk _ _ _ (hy.ev he (by simp [ho, Op.operands]))
  have hj' : rs[j]? = some (mapR enc b es) := hj
  obtain ⟨_, hh⟩ := (hI.hold _ (List.mem_of_getElem? hj')).1
  have hrun : (execOp a.eval o).run P w = .ok (.value (.tuple #[.int .i64 ((look es k).getD 0), .bool (look es k).isSome])) w := by
    have hf := find_key hT k w es
    have hg := find_at (fun p : κ × Int => decide (k = p.1)) es
    unfold look
    cases hfi : es.findIdx? fun p => decide (k = p.1) with
    | none =>
      rw [hfi] at hf hg
      rw [← hg]
      simp only [Option.bind_none] at hf
      simp [execOp, ho, h1, h2, Instr.lookup, run_underlying hT.und, MapKept.run_getObj_map hh, hT.chk, hf, hT.zero, Result.andThen]
    | some i =>
      rw [hfi] at hf hg
      rw [← hg]
      have hil : i < es.length := by rw [List.findIdx?_eq_some_iff_getElem] at hfi; exact hfi.1
      simp only [Option.bind_some, List.getElem?_eq_getElem hil, Option.map_some] at hf ⊢
      simp [execOp, ho, h1, h2, Instr.lookup, run_underlying hT.und, MapKept.run_getObj_map hh, hT.chk, hf, Result.andThen]
  rw [hrun]
  exact ⟨⟨_, rfl, rfl, rfl, trivial⟩, Below.refl _ _⟩

theorem updM_none {es : List (κ × Int)} {k : κ} {v : Int} (h : (es.findIdx? fun p => decide (k = p.1)) = none) : updM es k v = es ++ [(k, v)] := by unfold updM; rw [h]
theorem updM_some {es : List (κ × Int)} {k : κ} {v : Int} {i : Nat} (h : (es.findIdx? fun p => decide (k = p.1)) = some i) : updM es k v = es.set i (k, v) := by unfold updM; rw [h]
theorem ef_mapupd {T kt et : TypeId} {x y z : Operand} {b j : Nat} {es : List (κ × Int)} {v : Int} (k : κ) {q : Pr} (hT : MapT P T kt et enc) (hg : o.guard = none) (hd : o.dst = none) (ho : o.op = .mapUpdate T x y z) (hx : VL E x (is (.map (some b)))) (hy : VL E y q) (hk : ∀ M w v, q.h M w v → v = enc k) (hz : VL E z (int v)) :
    OpEf P M0 w0 S n j (SR.c (mapR enc b es)) (SR.c (mapR enc b (updM es k v))) o E any := by
  refine ⟨hg, fun M w a rs hsz he hI hj => ?_⟩
  have h1 : a.eval x = _ := hx.ev he (by simp [ho, Op.operands])
  have h2 : a.eval y = enc k := hk _ _ _ (hy.ev he (by simp [ho, Op.operands]))
  have h3 : a.eval z = _ := hz.ev he (by simp [ho, Op.operands])
  have hj' : rs[j]? = some (mapR enc b es) := hj
  obtain ⟨⟨hM, hh⟩, hbb⟩ := hI.hold _ (List.mem_of_getElem? hj')
  have hlt := (hbb b rfl).1
  have hf := find_key hT k w es
  have hrun : (execOp a.eval o).run P w = .ok .skip (setB w b (.map (mkE (encE enc (updM es k v))) (updM es k v).length)) := by
    cases hfi : es.findIdx? fun p => decide (k = p.1) with
    | none =>
      rw [hfi] at hf
      simp only [Option.bind_none] at hf
      rw [updM_none hfi]
      have hp : mkE (encE enc (es ++ [(k, v)])) = (mkE (encE enc es)).push { key := enc k, val := .int .i64 v, born := es.length } := by
        have := mkE_push (encE enc es) (enc k) (.int .i64 v)
        rw [List.length_map] at this
        rw [this]; simp [encE]
      rw [hp]
      simp [execOp, ho, h1, h2, h3, Instr.mapUpdate, run_underlying hT.und, MapKept.run_getObj_map hh, hT.chk, hf, MapKept.run_setObj_map _ hh, Result.andThen, setB]
    | some i =>
      have hil : i < es.length := by rw [List.findIdx?_eq_some_iff_getElem] at hfi; exact hfi.1
      have hke : (es[i]).1 = k := by
        rw [List.findIdx?_eq_some_iff_getElem] at hfi
        obtain ⟨_, h4, _⟩ := hfi
        simpa using (of_decide_eq_true h4).symm
      rw [hfi] at hf
      simp only [Option.bind_some, List.getElem?_eq_getElem hil, Option.map_some] at hf
      rw [updM_some hfi]
      have hp : mkE (encE enc (es.set i (k, v))) = (mkE (encE enc es)).modify i fun e => { e with key := enc k, val := .int .i64 v } := by
        rw [mkE_set (by simpa using hil)]; simp [encE]
      have hold : ((mkE (encE enc es))[i]?).map (·.key) = some (enc k) := by
        rw [mkE_at]; simp [encE, List.getElem?_eq_getElem hil, hke]
      rw [hp, List.length_set]
      simp [execOp, ho, h1, h2, h3, Instr.mapUpdate, run_underlying hT.und, MapKept.run_getObj_map hh, hT.chk, hf, hold, Instr.keyThatStays, hT.bits, MapKept.run_setObj_map _ hh, Result.andThen, setB]
  rw [hrun]
  obtain ⟨h5, h6⟩ := HpH.setR (obj := .map (mkE (encE enc (updM es k v))) (updM es k v).length) (r' := mapR enc b (updM es k v)) hI hj' rfl rfl rfl rfl hM ⟨hM, setB_at hlt⟩
  exact ⟨M, trivial, h6, h5⟩

def iterR (it b m : Nat) (seen : List Nat) : Res where
  blk := some it
  new := true
  h M w := (∀ o, M it o) ∧ w.heap[it]? = some (.mapIter (some b) m seen.toArray m)
  st M w M' w' he hk h := by
    obtain ⟨h1, h2⟩ := hk it rfl
    exact ⟨fun o => h2 o (h.1 o), h1.trans h.2⟩
theorem TO.range {d j b : Nat} {T kt et : TypeId} {x : Operand} {es : List (κ × Int)} (hT : MapT P T kt et enc) (hg : o.guard = none) (hd : o.dst = some d) (hn : d < n) (ho : o.op = .range T x) (hx : VL E x (is (.map (some b)))) (hj : rs[j]? = some (mapR enc b es))
    (k : ∀ it, TO P n ops r ((d, ptr it 0) :: E) (Hp M0 w0 S (iterR it b es.length [] :: rs)) Q) : TO P n ops (o :: r) E (Hp M0 w0 S rs) Q :=
  TO.eff hg fun K M w a hsz hdf he hI hK => by
    have h1 : a.eval x = _ := hx.ev (o := o) (looks_env he) (by simp [ho, Op.operands])
    obtain ⟨_, hh⟩ := (HpH.hold hI _ (List.mem_of_getElem? hj)).1
    refine TO.val (v := .pointer (some ⟨w.heap.size, 0, none⟩)) (w' := w.alloc (.mapIter (some b) es.length #[] es.length)) ?_ ?_
    · simp [execOp, ho, h1, run_range_map w T kt et b _ _ hT.und hh]
    · obtain ⟨h2, h3⟩ := HpH.addR (obj := .mapIter (some b) es.length #[] es.length) (r := iterR w.heap.size b es.length []) hI rfl rfl ⟨fun _ => .inr rfl, by rw [heap_alloc_new]⟩
      refine hK _ _ _ _ (k w.heap.size) ⟨_, by rw [put_size]; exact hsz, by rw [put_defers]; exact hdf, ?_, h2⟩
      intro s p hp
      simp only [List.lookup] at hp
      by_cases hs : s = d
      · subst hs; simp at hp; subst hp; rw [hd, put_same (by rw [hsz]; exact hn)]; rfl
      · rw [show (s == d) = false by simpa using hs] at hp
        rw [hd, put_other hs]
        exact p.st _ _ _ _ _ h3 (he s p hp)
theorem mem_left {es : List (Value × Value)} {seen : List Nat} {e : MapEntry} : e ∈ (leftOf (mkE es) seen.toArray).toList ↔ ∃ q p, es[q]? = some p ∧ q ∉ seen ∧ e = { key := p.1, val := p.2, born := q } := by
  unfold leftOf
  rw [Array.toList_filter, List.mem_filter]
  constructor
  · rintro ⟨h1, h2⟩
    obtain ⟨q, hq⟩ := List.mem_iff_getElem?.1 h1
    rw [Array.getElem?_toList, mkE_at] at hq
    cases hp : es[q]? with
    | none => rw [hp] at hq; cases hq
    | some p =>
      rw [hp] at hq
      simp only [Option.map_some, Option.some.injEq] at hq
      subst hq
      exact ⟨q, p, hp, by simpa using h2, rfl⟩
  · rintro ⟨q, p, hp, hq, rfl⟩
    exact ⟨List.mem_iff_getElem?.2 ⟨q, by rw [Array.getElem?_toList, mkE_at, hp]; rfl⟩, by simpa using hq⟩
theorem run_next_own {w : World} (ty : TypeId) {it b m : Nat} {seen : List Nat} {es : List (Value × Value)} (hm : es.length = m) (hit : w.heap[it]? = some (.mapIter (some b) m seen.toArray m)) (hb : w.heap[b]? = some (.map (mkE es) m)) :
    ((∀ q, q < m → q ∈ seen) ∧ (Instr.next (.pointer (some ⟨it, 0, none⟩)) false ty).run P w = .ok (.tuple #[.bool false]) w) ∨
    ∃ q p, es[q]? = some p ∧ q ∉ seen ∧ ∃ w1, (w1 = w ∨ w1 = w.drew) ∧ (Instr.next (.pointer (some ⟨it, 0, none⟩)) false ty).run P w = .ok (.tuple #[.bool true, p.1, p.2]) (setB w1 it (.mapIter (some b) m (seen ++ [q]).toArray m)) := by
  have hold : ∀ x ∈ (mkE es).toList, x.born < m := by
    intro x hx
    obtain ⟨q, hq⟩ := List.mem_iff_getElem?.1 hx
    rw [Array.getElem?_toList, mkE_at] at hq
    cases hp : es[q]? with
    | none => rw [hp] at hq; cases hq
    | some p =>
      rw [hp] at hq
      simp only [Option.map_some, Option.some.injEq] at hq
      subst hq
      show q < m
      rcases Nat.lt_or_ge q es.length with h | h
      · omega
      · rw [List.getElem?_eq_none h] at hp; cases hp
  simp only [Instr.next, getObj, Sem.run_bind, Sem.run, hit, hb, Result.andThen, next_test_false seen.toArray (mkE es) m m hold (Nat.le_refl _), Bool.false_eq_true, if_false]
  have hleft : (mkE es).filter (fun e => !seen.toArray.contains e.born) = leftOf (mkE es) seen.toArray := rfl
  rw [hleft]
  have hmem : ∀ x ∈ (leftOf (mkE es) seen.toArray).toList, x.born < m := fun x hx => by
    obtain ⟨q, p, h1, _, rfl⟩ := mem_left.1 hx
    rcases Nat.lt_or_ge q es.length with h | h
    · show q < m; omega
    · rw [List.getElem?_eq_none h] at h1; cases h1
  have hml : ∀ e, e ∈ (leftOf (mkE es) seen.toArray).toList ↔ ∃ q p, es[q]? = some p ∧ q ∉ seen ∧ e = { key := p.1, val := p.2, born := q } := fun e => mem_left
  generalize leftOf (mkE es) seen.toArray = L at hmem hml ⊢
  have e1 : L.filter (fun x => decide (x.born < m)) = L := Array.filter_eq_self.2 (fun x hx => by simpa using hmem x (by simpa using hx))
  have e2 : L.filter (fun x => decide (x.born ≥ m)) = #[] := by
    rw [Array.filter_eq_empty_iff]
    intro x hx
    have := hmem x (by simpa using hx)
    simp
    omega
  simp only [e1, e2, Array.append_empty]
  by_cases h0 : L.size = 0
  · left
    have hL : L = #[] := Array.eq_empty_of_size_eq_zero h0
    refine ⟨fun q hq => ?_, ?_⟩
    · rcases Classical.em (q ∈ seen) with h | h
      · exact h
      · have := (hml { key := (es[q]'(by omega)).1, val := (es[q]'(by omega)).2, born := q }).2 ⟨q, es[q]'(by omega), List.getElem?_eq_getElem (by omega), h, rfl⟩
        rw [hL] at this; simp at this
    · subst hL
      simp [choose, Sem.run, Question.forced]
  · right
    have hne : L.isEmpty = false := by simp [Array.isEmpty, h0]
    simp only [hne, Bool.false_eq_true, if_false, Array.empty_append, Array.size_map]
    have hch : ∃ (j : Nat) (w1 : World), j < L.size ∧ (w1 = w ∨ w1 = w.drew) ∧ (choose (Question.mapNext L.size)).run P w = .ok j w1 := by
      by_cases hf : L.size ≤ 1
      · exact ⟨0, w, by omega, .inl rfl, by simp [choose, Sem.run, Question.forced, hf]⟩
      · exact ⟨_, w.drew, Nat.mod_lt _ (by omega), .inr rfl, by
          simp only [choose, Sem.run, Question.forced, decide_eq_true_eq, hf, if_false, Question.cut]
          rfl⟩
    obtain ⟨j, w1, hj, hal, hrun⟩ := hch
    obtain ⟨q, p, hq1, hq2, hq3⟩ := (hml L[j]).1 (by simp)
    refine ⟨q, p, hq1, hq2, w1, hal, ?_⟩
    have hw1 : w1.heap = w.heap := by rcases hal with rfl | rfl <;> rfl
    have hset : ∀ (o' : Obj), (setObj it o').run P w1 = .ok () (setB w1 it o') := fun o' => by
      have hit1 : w1.heap[it]? = some (.mapIter (some b) m seen.toArray m) := by rw [hw1]; exact hit
      simp only [setObj, Sem.run, hit1]
      rfl
    simp only [hrun, Array.getElem?_map, Array.getElem?_eq_getElem hj, Option.map_some, Sem.run_bind, hset, Result.andThen]
    rw [hq3]
    simp

omit [DecidableEq κ] in
theorem TO.next {d i j it b : Nat} {x : Operand} {es : List (κ × Int)} {seen : List Nat} (hg : o.guard = none) (hd : o.dst = some d) (hn : d < n) (ho : o.op = .next x false) (hx : VL E x (ptr it 0)) (hi : rs[i]? = some (iterR it b es.length seen)) (hj : rs[j]? = some (mapR enc b es))
    (k1 : (∀ q, q < es.length → q ∈ seen) → TO P n ops r ((d, tup [bool false]) :: E) (Hp M0 w0 S rs) Q)
    (k2 : ∀ q p, es[q]? = some p → q ∉ seen → TO P n ops r ((d, tup [bool true, is (enc p.1), int p.2]) :: E) (Hp M0 w0 S (rs.set i (iterR it b es.length (seen ++ [q])))) Q) : TO P n ops (o :: r) E (Hp M0 w0 S rs) Q :=
  TO.eff hg fun K M w a hsz hdf he hI hK => by
    have h1 : a.eval x = .pointer (some ⟨it, 0, none⟩) := hx.ev (o := o) (looks_env he) (by simp [ho, Op.operands])
    obtain ⟨⟨hMi, hit⟩, hbi⟩ := HpH.hold hI _ (List.mem_of_getElem? hi)
    obtain ⟨_, hh⟩ := (HpH.hold hI _ (List.mem_of_getElem? hj)).1
    have hlt := (hbi it rfl).1
    rcases run_next_own (P := P) o.type (es := encE enc es) (by simp [encE]) hit hh with ⟨h2, h3⟩ | ⟨q, p, h2, h3, w1, h4, h5⟩
    · refine TO.val (v := .tuple #[.bool false]) (w' := w) ?_ ?_
      · simp [execOp, ho, h1, h3]
      · refine hK _ _ _ _ (k1 h2) ⟨M, by rw [put_size]; exact hsz, by rw [put_defers]; exact hdf, ?_, hI⟩
        intro s p hp
        simp only [List.lookup] at hp
        by_cases hs : s = d
        · subst hs; simp at hp; subst hp; rw [hd, put_same (by rw [hsz]; exact hn)]; exact ⟨_, rfl, rfl, trivial⟩
        · rw [show (s == d) = false by simpa using hs] at hp
          rw [hd, put_other hs]; exact he s p hp
    · have hes : ∃ p', es[q]? = some p' ∧ p = (enc p'.1, .int .i64 p'.2) := by
        simp only [encE, List.getElem?_map] at h2
        cases h : es[q]? with
        | none => rw [h] at h2; cases h2
        | some p' => rw [h] at h2; simp at h2; exact ⟨p', rfl, h2.symm⟩
      obtain ⟨p', hp', rfl⟩ := hes
      refine TO.val (v := .tuple #[.bool true, enc p'.1, .int .i64 p'.2]) (w' := setB w1 it (.mapIter (some b) es.length (seen ++ [q]).toArray es.length)) ?_ ?_
      · simp [execOp, ho, h1, h5]
      · have hbel : Below w.heap.size w w1 := by
          rcases h4 with rfl | rfl
          · exact Below.refl _ _
          · exact (Below.refl _ _).drew
        have hI1 := (Hp M0 w0 S rs).st _ _ _ hbel hI
        obtain ⟨h6, h7⟩ := HpH.setR (obj := .mapIter (some b) es.length (seen ++ [q]).toArray es.length) (r' := iterR it b es.length (seen ++ [q])) hI1 hi rfl rfl rfl rfl hMi ⟨hMi, setB_at (Nat.lt_of_lt_of_le hlt hbel.size)⟩
        refine hK _ _ _ _ (k2 q p' hp' h3) ⟨M, by rw [put_size]; exact hsz, by rw [put_defers]; exact hdf, ?_, h6⟩
        intro s p hp
        simp only [List.lookup] at hp
        by_cases hs : s = d
        · subst hs; simp at hp; subst hp; rw [hd, put_same (by rw [hsz]; exact hn)]; exact ⟨_, rfl, rfl, rfl, rfl, trivial⟩
        · rw [show (s == d) = false by simpa using hs] at hp
          rw [hd, put_other hs]
          exact p.st _ _ _ _ _ ((Ext.below hbel).trans h7) (he s p hp)
omit [DecidableEq κ] in
theorem TO.entry {d i j it b q : Nat} {x : Operand} {es : List (κ × Int)} {seen : List Nat} {p : κ × Int} (hg : o.guard = none) (hd : o.dst = some d) (hn : d < n) (ho : o.op = .entry x) (hx : VL E x (ptr it 0)) (hi : rs[i]? = some (iterR it b es.length (seen ++ [q]))) (hj : rs[j]? = some (mapR enc b es)) (hq : es[q]? = some p)
    (k : TO P n ops r ((d, tup [is (enc p.1), int p.2]) :: E) (Hp M0 w0 S rs) Q) : TO P n ops (o :: r) E (Hp M0 w0 S rs) Q :=
  TO.eff hg fun K M w a hsz hdf he hI hK => by
    have h1 : a.eval x = .pointer (some ⟨it, 0, none⟩) := hx.ev (o := o) (looks_env he) (by simp [ho, Op.operands])
    obtain ⟨⟨_, hit⟩, _⟩ := HpH.hold hI _ (List.mem_of_getElem? hi)
    obtain ⟨_, hh⟩ := (HpH.hold hI _ (List.mem_of_getElem? hj)).1
    have hat : (mkE (encE enc es))[q]? = some { key := enc p.1, val := .int .i64 p.2, born := q } := by rw [mkE_at]; simp [encE, hq]
    have hnd : ((mkE (encE enc es)).toList.map (·.born)).Nodup := by
      have : (mkE (encE enc es)).toList.map (·.born) = List.range (encE enc es).length := by
        apply List.ext_getElem?
        intro k
        rw [List.getElem?_map, Array.getElem?_toList, mkE_at]
        by_cases hk : k < (encE enc es).length
        · rw [List.getElem?_range hk, List.getElem?_eq_getElem hk]; rfl
        · rw [List.getElem?_eq_none (Nat.le_of_not_lt hk), List.getElem?_eq_none (by simp at hk ⊢; omega)]; rfl
      rw [this]; exact List.nodup_range
    have hfind : (mkE (encE enc es)).find? (fun e => e.born == q) = some { key := enc p.1, val := .int .i64 p.2, born := q } := by
      rw [← Array.find?_toList]
      exact find_born { key := enc p.1, val := .int .i64 p.2, born := q } _ hnd (List.mem_iff_getElem?.2 ⟨q, by rw [Array.getElem?_toList]; exact hat⟩)
    refine TO.val (v := .tuple #[enc p.1, .int .i64 p.2]) (w' := w) ?_ ?_
    · have : (Instr.entry (.pointer (some ⟨it, 0, none⟩))).run P w = .ok (.tuple #[enc p.1, .int .i64 p.2]) w := by
        have hb : (seen ++ [q]).toArray.back? = some q := by simp
        simp only [Instr.entry, getObj, Sem.run_bind, Sem.run, hit, hh, Result.andThen, hb, bne_self_eq_false, Bool.false_eq_true, if_false, hfind]
        rfl
      simp [execOp, ho, h1, this]
    · refine hK _ _ _ _ k ⟨M, by rw [put_size]; exact hsz, by rw [put_defers]; exact hdf, ?_, hI⟩
      intro s p hp
      simp only [List.lookup] at hp
      by_cases hs : s = d
      · subst hs; simp at hp; subst hp; rw [hd, put_same (by rw [hsz]; exact hn)]; exact ⟨_, rfl, rfl, rfl, trivial⟩
      · rw [show (s == d) = false by simpa using hs] at hp
        rw [hd, put_other hs]; exact he s p hp
end

section
variable {P : Program}
/-- Each field may be hashed. -/
def ChkF (P : Program) (e : Bool) (d : Nat) (cs : Array Value) : List Field → Prop
  | [] => True
  | f :: fs => (∃ v, (∀ w, (part f.type cs f.offset).run P w = .ok v w) ∧ ∀ w, (Instr.checkKey e d f.type v).run P w = .ok () w) ∧ ChkF P e d cs fs
theorem chk_int {t : TypeId} {k : IntKind} {e : Bool} {d : Nat} {v : Value} (ht : P.underlying t = some (.int k)) (w : World) : (Instr.checkKey e (d + 1) t v).run P w = .ok () w := by
  simp [Instr.checkKey, run_underlying ht]
theorem chk_str {t : TypeId} {e : Bool} {d : Nat} {v : Value} (ht : P.underlying t = some .string) (w : World) : (Instr.checkKey e (d + 1) t v).run P w = .ok () w := by
  simp [Instr.checkKey, run_underlying ht]
theorem chkS {t : TypeId} {fs : Array Field} {e : Bool} {d : Nat} {cs : Array Value} (ht : P.underlying t = some (.struct fs)) (h : ChkF P e d cs fs.toList) (w : World) : (Instr.checkKey e (d + 1) t (.agg cs)).run P w = .ok () w := by
  simp only [Instr.checkKey, Sem.run_bind, run_underlying ht, Result.andThen_ok]
  rw [← Array.forIn_toList]
  clear ht
  generalize fs.toList = l at h ⊢
  induction l with
  | nil => simp
  | cons f fs ih =>
    obtain ⟨⟨v, h1, h2⟩, h3⟩ := h
    simp only [List.forIn_cons, Sem.run_bind, Sem.run_ite]
    split
    · simp only [Sem.run_bind, h1, h2, Result.andThen_ok, Sem.run_pure]
      exact ih h3
    · simp only [Sem.run_pure, Result.andThen_ok]
      exact ih h3
end
end Cp
namespace Go.Proofs.YthmnoekgicggnaaGreat
open Go Go.RowKit Cp

structure Plc where
  subj : List UInt8
  text : List UInt8
  kind : Int
  num : Int
  alg : Int
  bits : Int
deriving DecidableEq
abbrev rowPl (p : Plc) : List Pr := [str p.subj, str p.text, int p.kind, int p.num, int p.alg, int p.bits]
def encPl (p : Plc) : Value := .agg [.string ⟨p.subj.toArray⟩, .string ⟨p.text.toArray⟩, .int .i64 p.kind, .int .i64 p.num, .int .i64 p.alg, .int .i64 p.bits].toArray
/-- What a finding is about. -/
def plcOf (f : Fnd) : Plc :=
  if f.kind = 1 ∨ f.kind = 8 then ⟨f.subj, [], 1, 0, f.alg, f.bits⟩
  else if f.kind = 2 ∨ f.kind = 6 then ⟨f.subj, [], f.kind, f.num, 0, 0⟩
  else if f.kind = 7 then ⟨f.subj, f.text, f.kind, 0, 0, 0⟩
  else ⟨f.subj, [], f.kind, 0, 0, 0⟩

set_option maxRecDepth 20000 in
theorem w_placeOf {f : Fnd}  : Fun Tryz.prog 37 [agg (rowF f)] (agg (rowPl (plcOf f))) := by
 refine Fun.of Tryz.func37 rfl rfl (by exact Nat.le_of_ble_eq_true rfl) fun M0 w0 => ?_
 refine Tr.seq ?_
 refine Tr.regT ?_
 refine TO.op rfl rfl (by decide) (ok_box rfl (VL.le (vl rfl) (agg_cellsP _))) ?_
 refine TO.alloc rfl rfl (by decide) rfl z80 zo80 (fun b1 => ?_)
 refine TO.nil ?_
 refine Fin.go ?_
 refine Tr.seq ?_
 refine Tr.regT ?_
 refine TO.op rfl rfl (by decide) (ok_fieldAddr rfl fo42_6 (vl rfl) rfl) ?_
 refine TO.op rfl rfl (by decide) (ok_load1 rfl one9 (vl rfl)) ?_
 refine TO.op rfl rfl (by decide) (ok_fieldAddr rfl fo42_5 (vl rfl) rfl) ?_
 refine TO.op rfl rfl (by decide) (ok_load1 rfl one3 (vl rfl)) ?_
 refine TO.op rfl rfl (by decide) (ok_build (rows := [(0, [_]), (2, [_])]) rfl bl80 zo80 ⟨⟨rfl, (VL.le (vl rfl) (one_cellsP _))⟩, ⟨⟨rfl, (VL.le (vl rfl) (one_cellsP _))⟩, trivial⟩⟩ rfl) ?_
 refine TO.alloc rfl rfl (by decide) rfl z80 zo80 (fun b2 => ?_)
 refine TO.store_all 0 rfl rfl rfl (vl rfl) (VL.le (vl rfl) (agg_cellsP _)) rfl sz80 rfl rfl ?_
 refine TO.nil ?_
 refine Fin.go ?_
 refine Tr.seq ?_
 refine Tr.seq ?_
 refine Tr.reC 0 [str f.subj, str [], int f.kind, int 0, int 0, int 0] rfl ⟨Pr.le_refl _, Pr.le_refl _, Pr.le_refl _, Pr.le_refl _, Pr.le_refl _, Pr.le_refl _, trivial⟩ ?_
 refine Tr.reg0 ?_
 refine Ch.op rfl rfl (by decide) (ok_fieldAddr rfl fo42_5 (vl rfl) rfl) ?_
 refine Ch.op rfl rfl (by decide) (ok_load1 rfl one3 (vl rfl)) ?_
 refine Ch.nil ?_
 refine Fin.go ?_
 refine Tr.block ?_
 refine Tr.seq ?_
 refine Tr.seq ?_
 refine Tr.reg0 ?_
 refine Ch.op rfl rfl (by decide) (ok_int rfl (vl rfl) (vl rfl) rfl) ?_
 refine Ch.op rfl rfl (by decide) (ok_assign rfl (vl rfl)) ?_
 refine Ch.nil ?_
 refine Fin.go ?_
 refine Tr.weak [(1, _), (2, _), (3, _), (10, _), (11, _)] ⟨⟨_, rfl, Pr.le_refl _⟩, ⟨_, rfl, Pr.le_refl _⟩, ⟨_, rfl, Pr.le_refl _⟩, ⟨_, rfl, Pr.le_refl _⟩, ⟨_, rfl, Pr.le_refl _⟩, trivial⟩ ?_
 refine Tr.cond rfl (fun h1 => ?_) (fun h1 => ?_)
 ·
  have q1 := Nrm.nrm h1
  refine Tr.skip ?_
  refine Fin.go ?_
  refine Tr.cond rfl (fun _ => ?_) (fun h => nomatch h1.symm.trans h)
  refine Tr.regX mixed [none, none, none, some (0, 0, true, 0), none, some (0, 0, true, 0)] (by kernel_rfl) ?_
  refine Cx.op rfl rfl (by decide) (fun _ => ok_fieldAddr rfl fo42_7 (vl rfl) rfl) ?_
  refine Cx.op rfl rfl (by decide) (fun _ => ok_loadA rfl agg38 sz38 (vl rfl) rfl rfl) ?_
  refine Cx.op rfl rfl (by decide) (fun _ => okp_fieldAddr rfl fo80_2 (vl rfl)) ?_
  refine Cx.ef0 0 rfl rfl (ef_store rfl rfl (vl rfl) (VL.le (vl rfl) (one_cellsP _)) sz3 rfl (by exact Nat.le_of_ble_eq_true rfl) rfl) ?_
  refine Cx.op rfl rfl (by decide) (fun _ => okp_fieldAddr rfl fo80_4 (vl rfl)) ?_
  refine Cx.ef0 0 rfl rfl (ef_store rfl rfl (vl rfl) (VL.le (vl rfl) (agg_cellsP _)) sz38 rfl (by exact Nat.le_of_ble_eq_true rfl) rfl) ?_
  refine Cx.nil ⟨rfl, ?_⟩
  refine FinX.done (AllC.cons (AllC.cons (AllC.map _))) ?_
  refine Fin.block ?_
  refine Fin.go ?_
  refine Tr.seq ?_
  refine Tr.reC 0 [str f.subj, str [], int 1, int 0, int f.alg, int f.bits] rfl ⟨Pr.le_refl _, Pr.le_refl _, Pr.le_refl _, Pr.le_refl _, Pr.le_refl _, Pr.le_refl _, trivial⟩ ?_
  refine Tr.regT ?_
  refine TO.rd 0 rfl rfl rfl (by decide) (rd_loadA rfl agg80 sz80 (vl rfl) rfl rfl) ?_
  refine TO.store_all 1 rfl rfl rfl (vl rfl) (VL.le (vl rfl) (agg_cellsP _)) rfl sz80 rfl rfl ?_
  refine TO.nil ?_
  refine Fin.go ?_
  refine Tr.drop 0 ?_
  refine Tr.ret ?_
  refine Fin.retX1 rfl (RVal.cell 0 rfl rfl agg80 sz80 rfl (Pr.le_refl _)) ?_
  · unfold plcOf; rw [if_pos (by omega)]; exact Pr.le_refl _
 ·
  have q1 := Nrm.nrm h1
  refine Tr.reg0 ?_
  refine Ch.op rfl rfl (by decide) (ok_int rfl (vl rfl) (vl rfl) rfl) ?_
  refine Ch.op rfl rfl (by decide) (ok_assign rfl (vl rfl)) ?_
  refine Ch.nil ?_
  refine Fin.go ?_
  refine Tr.cond rfl (fun h2 => ?_) (fun h2 => ?_)
  ·
   have q2 := Nrm.nrm h2
   refine Tr.regX mixed [none, none, none, some (0, 0, true, 0), none, some (0, 0, true, 0)] (by kernel_rfl) ?_
   refine Cx.op rfl rfl (by decide) (fun _ => ok_fieldAddr rfl fo42_7 (vl rfl) rfl) ?_
   refine Cx.op rfl rfl (by decide) (fun _ => ok_loadA rfl agg38 sz38 (vl rfl) rfl rfl) ?_
   refine Cx.op rfl rfl (by decide) (fun _ => okp_fieldAddr rfl fo80_2 (vl rfl)) ?_
   refine Cx.ef0 0 rfl rfl (ef_store rfl rfl (vl rfl) (VL.le (vl rfl) (one_cellsP _)) sz3 rfl (by exact Nat.le_of_ble_eq_true rfl) rfl) ?_
   refine Cx.op rfl rfl (by decide) (fun _ => okp_fieldAddr rfl fo80_4 (vl rfl)) ?_
   refine Cx.ef0 0 rfl rfl (ef_store rfl rfl (vl rfl) (VL.le (vl rfl) (agg_cellsP _)) sz38 rfl (by exact Nat.le_of_ble_eq_true rfl) rfl) ?_
   refine Cx.nil ⟨rfl, ?_⟩
   refine FinX.done (AllC.cons (AllC.cons (AllC.map _))) ?_
   refine Fin.block ?_
   refine Fin.go ?_
   refine Tr.seq ?_
   refine Tr.reC 0 [str f.subj, str [], int 1, int 0, int f.alg, int f.bits] rfl ⟨Pr.le_refl _, Pr.le_refl _, Pr.le_refl _, Pr.le_refl _, Pr.le_refl _, Pr.le_refl _, trivial⟩ ?_
   refine Tr.regT ?_
   refine TO.rd 0 rfl rfl rfl (by decide) (rd_loadA rfl agg80 sz80 (vl rfl) rfl rfl) ?_
   refine TO.store_all 1 rfl rfl rfl (vl rfl) (VL.le (vl rfl) (agg_cellsP _)) rfl sz80 rfl rfl ?_
   refine TO.nil ?_
   refine Fin.go ?_
   refine Tr.drop 0 ?_
   refine Tr.ret ?_
   refine Fin.retX1 rfl (RVal.cell 0 rfl rfl agg80 sz80 rfl (Pr.le_refl _)) ?_
   · unfold plcOf; rw [if_pos (by omega)]; exact Pr.le_refl _
  ·
   have q2 := Nrm.nrm h2
   refine Tr.seq ?_
   refine Tr.seq ?_
   refine Tr.reg0 ?_
   refine Ch.op rfl rfl (by decide) (ok_int rfl (vl rfl) (vl rfl) rfl) ?_
   refine Ch.op rfl rfl (by decide) (ok_assign rfl (vl rfl)) ?_
   refine Ch.nil ?_
   refine Fin.go ?_
   refine Tr.cond rfl (fun h3 => ?_) (fun h3 => ?_)
   ·
    have q3 := Nrm.nrm h3
    refine Tr.skip ?_
    refine Fin.go ?_
    refine Tr.cond rfl (fun _ => ?_) (fun h => nomatch h3.symm.trans h)
    refine Tr.regT ?_
    refine TO.op rfl rfl (by decide) (ok_fieldAddr rfl fo42_8 (vl rfl) rfl) ?_
    refine TO.op rfl rfl (by decide) (ok_load1 rfl one3 (vl rfl)) ?_
    refine TO.op rfl rfl (by decide) (okp_fieldAddr rfl fo80_3 (vl rfl)) ?_
    refine TO.ef0 0 rfl rfl (ef_store rfl rfl (vl rfl) (VL.le (vl rfl) (one_cellsP _)) sz3 rfl (by exact Nat.le_of_ble_eq_true rfl) rfl) ?_
    refine TO.nil ?_
    refine Fin.block ?_
    refine Fin.go ?_
    refine Tr.seq ?_
    refine Tr.reC 0 [str f.subj, str [], int f.kind, int f.num, int 0, int 0] rfl ⟨Pr.le_refl _, Pr.le_refl _, Pr.le_refl _, Pr.le_refl _, Pr.le_refl _, Pr.le_refl _, trivial⟩ ?_
    refine Tr.regT ?_
    refine TO.rd 0 rfl rfl rfl (by decide) (rd_loadA rfl agg80 sz80 (vl rfl) rfl rfl) ?_
    refine TO.store_all 1 rfl rfl rfl (vl rfl) (VL.le (vl rfl) (agg_cellsP _)) rfl sz80 rfl rfl ?_
    refine TO.nil ?_
    refine Fin.go ?_
    refine Tr.drop 0 ?_
    refine Tr.ret ?_
    refine Fin.retX1 rfl (RVal.cell 0 rfl rfl agg80 sz80 rfl (Pr.le_refl _)) ?_
    · unfold plcOf; rw [if_neg (by omega), if_pos (by omega)]; exact Pr.le_refl _
   ·
    have q3 := Nrm.nrm h3
    refine Tr.reg0 ?_
    refine Ch.op rfl rfl (by decide) (ok_int rfl (vl rfl) (vl rfl) rfl) ?_
    refine Ch.op rfl rfl (by decide) (ok_assign rfl (vl rfl)) ?_
    refine Ch.nil ?_
    refine Fin.go ?_
    refine Tr.cond rfl (fun h4 => ?_) (fun h4 => ?_)
    ·
     have q4 := Nrm.nrm h4
     refine Tr.regT ?_
     refine TO.op rfl rfl (by decide) (ok_fieldAddr rfl fo42_8 (vl rfl) rfl) ?_
     refine TO.op rfl rfl (by decide) (ok_load1 rfl one3 (vl rfl)) ?_
     refine TO.op rfl rfl (by decide) (okp_fieldAddr rfl fo80_3 (vl rfl)) ?_
     refine TO.ef0 0 rfl rfl (ef_store rfl rfl (vl rfl) (VL.le (vl rfl) (one_cellsP _)) sz3 rfl (by exact Nat.le_of_ble_eq_true rfl) rfl) ?_
     refine TO.nil ?_
     refine Fin.block ?_
     refine Fin.go ?_
     refine Tr.weak [(2, _), (3, _)] ⟨⟨_, rfl, Pr.le_refl _⟩, ⟨_, rfl, Pr.le_refl _⟩, trivial⟩ ?_
     refine Tr.seq ?_
     refine Tr.reC 0 [str f.subj, str [], int f.kind, int f.num, int 0, int 0] rfl ⟨Pr.le_refl _, Pr.le_refl _, Pr.le_refl _, Pr.le_refl _, Pr.le_refl _, Pr.le_refl _, trivial⟩ ?_
     refine Tr.regT ?_
     refine TO.rd 0 rfl rfl rfl (by decide) (rd_loadA rfl agg80 sz80 (vl rfl) rfl rfl) ?_
     refine TO.store_all 1 rfl rfl rfl (vl rfl) (VL.le (vl rfl) (agg_cellsP _)) rfl sz80 rfl rfl ?_
     refine TO.nil ?_
     refine Fin.go ?_
     refine Tr.drop 0 ?_
     refine Tr.ret ?_
     refine Fin.retX1 rfl (RVal.cell 0 rfl rfl agg80 sz80 rfl (Pr.le_refl _)) ?_
     · unfold plcOf; rw [if_neg (by omega), if_pos (by omega)]; exact Pr.le_refl _
    ·
     have q4 := Nrm.nrm h4
     refine Tr.seq ?_
     refine Tr.reg0 ?_
     refine Ch.op rfl rfl (by decide) (ok_int rfl (vl rfl) (vl rfl) rfl) ?_
     refine Ch.op rfl rfl (by decide) (ok_assign rfl (vl rfl)) ?_
     refine Ch.nil ?_
     refine Fin.go ?_
     refine Tr.cond rfl (fun h5 => ?_) (fun h5 => ?_)
     ·
      have q5 := Nrm.nrm h5
      refine Tr.regT ?_
      refine TO.op rfl rfl (by decide) (ok_fieldAddr rfl fo42_9 (vl rfl) rfl) ?_
      refine TO.op rfl rfl (by decide) (ok_load1 rfl one9 (vl rfl)) ?_
      refine TO.op rfl rfl (by decide) (okp_fieldAddr rfl fo80_1 (vl rfl)) ?_
      refine TO.ef0 0 rfl rfl (ef_store rfl rfl (vl rfl) (VL.le (vl rfl) (one_cellsP _)) sz9 rfl (by exact Nat.le_of_ble_eq_true rfl) rfl) ?_
      refine TO.nil ?_
      refine Fin.block ?_
      refine Fin.go ?_
      refine Tr.weak [(2, _), (3, _)] ⟨⟨_, rfl, Pr.le_refl _⟩, ⟨_, rfl, Pr.le_refl _⟩, trivial⟩ ?_
      refine Tr.seq ?_
      refine Tr.reC 0 [str f.subj, str f.text, int f.kind, int 0, int 0, int 0] rfl ⟨Pr.le_refl _, Pr.le_refl _, Pr.le_refl _, Pr.le_refl _, Pr.le_refl _, Pr.le_refl _, trivial⟩ ?_
      refine Tr.regT ?_
      refine TO.rd 0 rfl rfl rfl (by decide) (rd_loadA rfl agg80 sz80 (vl rfl) rfl rfl) ?_
      refine TO.store_all 1 rfl rfl rfl (vl rfl) (VL.le (vl rfl) (agg_cellsP _)) rfl sz80 rfl rfl ?_
      refine TO.nil ?_
      refine Fin.go ?_
      refine Tr.drop 0 ?_
      refine Tr.ret ?_
      refine Fin.retX1 rfl (RVal.cell 0 rfl rfl agg80 sz80 rfl (Pr.le_refl _)) ?_
      · unfold plcOf; rw [if_neg (by omega), if_neg (by omega), if_pos (by omega)]; exact Pr.le_refl _
     ·
      have q5 := Nrm.nrm h5
      refine Tr.skip ?_
      refine Fin.block ?_
      refine Fin.go ?_
      refine Tr.seq ?_
      refine Tr.reC 0 [str f.subj, str [], int f.kind, int 0, int 0, int 0] rfl ⟨Pr.le_refl _, Pr.le_refl _, Pr.le_refl _, Pr.le_refl _, Pr.le_refl _, Pr.le_refl _, trivial⟩ ?_
      refine Tr.regT ?_
      refine TO.rd 0 rfl rfl rfl (by decide) (rd_loadA rfl agg80 sz80 (vl rfl) rfl rfl) ?_
      refine TO.store_all 1 rfl rfl rfl (vl rfl) (VL.le (vl rfl) (agg_cellsP _)) rfl sz80 rfl rfl ?_
      refine TO.nil ?_
      refine Fin.go ?_
      refine Tr.drop 0 ?_
      refine Tr.weak [(2, _)] ⟨⟨_, rfl, Pr.le_refl _⟩, trivial⟩ ?_
      refine Tr.ret ?_
      refine Fin.retX1 rfl (RVal.cell 0 rfl rfl agg80 sz80 rfl (Pr.le_refl _)) ?_
      · unfold plcOf; rw [if_neg (by omega), if_neg (by omega), if_neg (by omega)]; exact Pr.le_refl _
theorem mapT_place : MapT Tryz.prog 78 80 3 encPl where
  und := Tryz.underlying78
  zero := fun w => by kernel_rfl
  eq := fun a b w => by
    rw [show Op.equal 80 _ _ = Op.equalIn (9997 + 3) 80 _ _ from rfl]
    refine (eqv80 (x0 := a.subj) (x1 := a.text) (x2 := a.kind) (x3 := a.num) (x4 := a.alg) (x5 := a.bits) (y0 := b.subj) (y1 := b.text) (y2 := b.kind) (y3 := b.num) (y4 := b.alg) (y5 := b.bits)).trans (congrArg (fun b => Result.ok b w) ?_)
    rw [decide_eq_decide]
    cases a; cases b; simp
  chk := fun e a w => by
    show (Instr.checkKey e (9999 + 1) 80 (.agg _)).run _ w = _
    exact chkS Tryz.underlying80 (⟨⟨_, fun w => part_leaf one9 rfl, chk_str Tryz.underlying9⟩, ⟨⟨_, fun w => part_leaf one9 rfl, chk_str Tryz.underlying9⟩, ⟨⟨_, fun w => part_leaf one3 rfl, chk_int Tryz.underlying3⟩, ⟨⟨_, fun w => part_leaf one3 rfl, chk_int Tryz.underlying3⟩, ⟨⟨_, fun w => part_agg agg38 sz38 rfl, chkS Tryz.underlying38 (⟨⟨_, fun w => part_leaf one3 rfl, chk_int Tryz.underlying3⟩, ⟨⟨_, fun w => part_leaf one3 rfl, chk_int Tryz.underlying3⟩, trivial⟩⟩)⟩, trivial⟩⟩⟩⟩⟩) w
  und2 := ⟨_, Tryz.underlying80, fun a b => rfl⟩
  bits := fun a => by
    show Instr.sameBits (9999 + 1) (.agg _) (.agg _) = true
    simp [Instr.sameBits, beq_toListBytes]

end Go.Proofs.YthmnoekgicggnaaGreat
namespace Go.Proofs.YthmnoekgicggnaaGreat
open Go Go.RowKit Cp
set_option maxRecDepth 20000 in
theorem w_CloneP {l : List Int} (hl : l.length ≤ 1000000000) : Fun Tryz.prog 60 [ints l] (ints l) := by
 refine Fun.of Tryz.func60 rfl rfl (by exact Nat.le_of_ble_eq_true rfl) fun M0 w0 => ?_
 refine Tr.seq ?_
 refine Tr.reg0 ?_
 refine Ch.op rfl rfl (by decide) (ok_assign rfl (vl rfl)) ?_
 refine Ch.nil ?_
 refine Fin.go ?_
 refine Tr.seq ?_
 refine Tr.seq ?_
 refine Tr.reg0 ?_
 refine Ch.op rfl rfl (by decide) (ok_move rfl (vl rfl)) ?_
 refine Ch.op rfl rfl (by decide) (ok_eqnil rfl Tryz.underlying22 (vl rfl)) ?_
 refine Ch.nil ?_
 refine Fin.go ?_
 refine Tr.ex 4 rfl (fun z1 => Tr.fact 4 rfl fun hz1 => ?_)
 refine Tr.cond rfl (fun h1 => ?_) (fun h1 => ?_)
 ·
  have q1 := Nrm.nrm h1
  refine Tr.seq ?_
  refine Tr.reg0 ?_
  refine Ch.op rfl rfl (by decide) (ok_assign rfl (vl rfl)) ?_
  refine Ch.nil ?_
  refine Fin.go ?_
  refine Tr.ret ?_
  refine Fin.then_ret ?_
  refine Fin.ret1 rfl (OutW.bse _ _) rfl ?_
  · (have hl0 : l = [] := (by simpa using hz1 h1)); subst hl0; exact nil_slice 1
 ·
  have q1 := Nrm.nrm h1
  refine Tr.skip ?_
  refine Fin.go ?_
  refine Tr.seq ?_
  refine Tr.regT ?_
  refine TO.op rfl rfl (by decide) (ok_buildSlice (xs := []) (rows := []) rfl rfl Tryz.underlying22 sz3 z3 rfl (by decide) trivial (by decide)) ?_
  refine TO.op rfl rfl (by decide) (ok_move rfl (vl rfl)) ?_
  refine TO.pad ?_
  refine TO.efs 0 rfl rfl (by decide) (ef_append rfl rfl (by decide) rfl Tryz.underlying22 sz3 by3 z3 rfl (by decide) ⟨_, rfl, full_le _ _⟩ (vl rfl) (by simp only [List.length_map, List.length_append, List.length_cons, List.length_nil]; unfold maxLen; omega) (by simp only [List.length_map, List.length_append, List.length_cons, List.length_nil]; omega) (appR_full (by exact List.Mem.head _) (vl rfl))) (fun v1 => ?_)
  refine TO.op rfl rfl (by decide) (ok_assign rfl (vl rfl)) ?_
  refine TO.nil ?_
  refine Fin.go ?_
  refine Tr.ret ?_
  refine Fin.ret1 rfl (OutW.bse _ _) rfl ?_
  · exact Pr.le_trans (andIs_le _ _) (Pr.le_of_eq (by simp))
set_option maxRecDepth 20000 in
theorem w_CompAscI {l : List Int} (hl : Asc l) (hs : l.length ≤ 1000000) : Fun Tryz.prog 62 [ints l] (ints l) := by
 refine Fun.of Tryz.func62 rfl rfl (by exact Nat.le_of_ble_eq_true rfl) fun M0 w0 => ?_
 refine Tr.seq ?_
 refine Tr.reg0 ?_
 refine Ch.op rfl rfl (by decide) (ok_assign rfl (vl rfl)) ?_
 refine Ch.nil ?_
 refine Fin.go ?_
 refine Tr.seq ?_
 refine Tr.seq ?_
 refine Tr.reg0 ?_
 refine Ch.op rfl rfl (by decide) (ok_move rfl (vl rfl)) ?_
 first
  | refine Ch.op rfl rfl (by decide) (ok_lenm rfl Tryz.underlying22 (vl rfl)) ?_
  | refine Ch.op rfl rfl (by decide) (ok_len rfl Tryz.underlying22 (vl rfl)) ?_
 refine Ch.op rfl rfl (by decide) (ok_int rfl (vl rfl) (vl rfl) rfl) ?_
 refine Ch.nil ?_
 refine Fin.go ?_
 refine Tr.cond rfl (fun h1 => ?_) (fun h1 => ?_)
 ·
  have q1 := Nrm.nrm h1
  refine Tr.seq ?_
  refine Tr.reg0 ?_
  refine Ch.op rfl rfl (by decide) (ok_move rfl (vl rfl)) ?_
  refine Ch.op rfl rfl (by decide) (ok_assign rfl (vl rfl)) ?_
  refine Ch.nil ?_
  refine Fin.go ?_
  refine Tr.ret ?_
  refine Fin.then_ret ?_
  refine Fin.ret1 rfl (OutW.bse _ _) rfl ?_
  · first | exact Pr.le_refl _ | (refine int_eq ?_; simp_all; done) | (refine bool_eq ?_; simp_all; done) | (refine bool_eq ?_; simp_all; omega) | (refine int_eq ?_; omega)
 ·
  have q1 := Nrm.nrm h1
  refine Tr.skip ?_
  refine Fin.go ?_
  refine Tr.seq ?_
  refine Tr.seq ?_
  refine Tr.reg0 ?_
  refine Ch.op rfl rfl (by decide) (ok_assign rfl (vl rfl)) ?_
  refine Ch.nil ?_
  refine Fin.go ?_
  refine Tr.block ?_
  refine Tr.loopw [(0, _)] ⟨⟨_, rfl, Pr.le_refl _⟩, trivial⟩ (fun k : Nat => [(3, int ((k : Nat) : Int))]) (fun k : Nat => 1 ≤ k ∧ k ≤ l.length) (fun k : Nat => l.length - k) 1 (⟨by omega, by omega⟩) ⟨⟨_, rfl, Pr.le_refl _⟩, trivial⟩ ?_
  rintro k ⟨hk1, hk2⟩
  refine Tr.seq ?_
  refine Tr.seq ?_
  refine Tr.reg0 ?_
  refine Ch.op rfl rfl (by decide) (ok_move rfl (vl rfl)) ?_
  refine Ch.op rfl rfl (by decide) (ok_move rfl (vl rfl)) ?_
  first
   | refine Ch.op rfl rfl (by decide) (ok_lenm rfl Tryz.underlying22 (vl rfl)) ?_
   | refine Ch.op rfl rfl (by decide) (ok_len rfl Tryz.underlying22 (vl rfl)) ?_
  refine Ch.op rfl rfl (by decide) (ok_int rfl (vl rfl) (vl rfl) rfl) ?_
  refine Ch.nil ?_
  refine Fin.go ?_
  refine Tr.cond rfl (fun h2 => ?_) (fun h2 => ?_)
  ·
   have q2 := Nrm.nrm h2
   have hkl : k < l.length := lt_of_dec h2
   obtain ⟨x, hx⟩ := at_ hkl
   obtain ⟨p, hp⟩ := at_ (l := l) (k := k - 1) (by omega)
   have hpx := asc_ne hl (by omega) hp hx
   refine Tr.skip ?_
   refine Fin.go ?_
   refine Tr.seq ?_
   refine Tr.block ?_
   refine Tr.seq ?_
   refine Tr.reg1 mixed (by kernel_rfl) ?_
   refine Ch.op rfl rfl (by decide) (ok_move rfl (vl rfl)) ?_
   refine Ch.op rfl rfl (by decide) (ok_move rfl (vl rfl)) ?_
   refine Ch.op rfl rfl (by decide) (ok_indexAddr rfl Tryz.underlying22 sz3 (vl rfl) (vl rfl) (by omega) (row_at hx)) ?_
   refine Ch.op rfl rfl (by decide) (ok_load1 rfl one3 (vl rfl)) ?_
   refine Ch.op rfl rfl (by decide) (ok_move rfl (vl rfl)) ?_
   refine Ch.op rfl rfl (by decide) (ok_move rfl (vl rfl)) ?_
   first
    | (refine Ch.op rfl rfl (by decide) (ok_sub rfl (vl rfl) (vl rfl) ?hin) ?_; case hin => unfold InI; omega)
    | refine Ch.op rfl rfl (by decide) (ok_int rfl (vl rfl) (vl rfl) rfl) ?_
   refine Ch.op rfl rfl (by decide) (ok_indexAddr rfl Tryz.underlying22 sz3 (vl rfl) (vl rfl) (by omega) (pred_ints hp (by omega))) ?_
   refine Ch.op rfl rfl (by decide) (ok_load1 rfl one3 (vl rfl)) ?_
   refine Ch.op rfl rfl (by decide) (ok_int rfl (vl rfl) (vl rfl) rfl) ?_
   refine Ch.nil ?_
   refine Fin.go ?_
   refine Tr.weak [(0, _), (3, _), (25, _)] ⟨⟨_, rfl, Pr.le_refl _⟩, ⟨_, rfl, Pr.le_refl _⟩, ⟨_, rfl, Pr.le_refl _⟩, trivial⟩ ?_
   refine Tr.cond rfl (fun h3 => ?_) (fun h3 => ?_)
   ·
    have q3 := Nrm.nrm h3
    exfalso; omega
   ·
    have q3 := Nrm.nrm h3
    refine Tr.skip ?_
    refine Fin.block ?_
    refine Fin.go ?_
    refine Tr.reg0 ?_
    refine Ch.op rfl rfl (by decide) (ok_move rfl (vl rfl)) ?_
    first
     | (refine Ch.op rfl rfl (by decide) (ok_add rfl (vl rfl) (vl rfl) ?hin) ?_; case hin => unfold InI; omega)
     | refine Ch.op rfl rfl (by decide) (ok_int rfl (vl rfl) (vl rfl) rfl) ?_
    refine Ch.op rfl rfl (by decide) (ok_assign rfl (vl rfl)) ?_
    refine Ch.nil ?_
    exact Fin.fam_same (k + 1) ⟨⟨by omega, by omega⟩, by omega⟩ ⟨⟨_, rfl, int_succ k⟩, ⟨_, rfl, Pr.le_refl _⟩, trivial⟩
  ·
   have q2 := Nrm.nrm h2
   have := h2
   refine Tr.exit ?_
   refine Fin.then_exit ?_
   refine Fin.then_exit ?_
   refine Fin.block_here ?_
   refine Fin.go ?_
   refine Tr.seq ?_
   refine Tr.reg0 ?_
   refine Ch.op rfl rfl (by decide) (ok_move rfl (vl rfl)) ?_
   refine Ch.op rfl rfl (by decide) (ok_assign rfl (vl rfl)) ?_
   refine Ch.nil ?_
   refine Fin.go ?_
   refine Tr.ret ?_
   refine Fin.ret1 rfl (OutW.bse _ _) rfl ?_
   · first | exact Pr.le_refl _ | (refine int_eq ?_; simp_all; done) | (refine bool_eq ?_; simp_all; done) | (refine bool_eq ?_; simp_all; omega) | (refine int_eq ?_; omega)
abbrev entP (n : Int) (own : List Int) : Pr := agg [int n, any, any, ints own]
def InR (own : List Int) (m : Nat) : Prop := ∀ i ∈ own, 0 ≤ i ∧ i < (m : Int)
instance (own : List Int) (m : Nat) : Decidable (InR own m) := inferInstanceAs (Decidable (∀ i ∈ own, 0 ≤ i ∧ i < (m : Int)))
theorem asc_le {l : List Int} (h : Asc l) : ∀ (d i : Nat) {x y : Int}, l[i]? = some x → l[i + d]? = some y → x ≤ y
  | 0, i, x, y, hx, hy => by rw [Nat.add_zero, hx] at hy; cases hy; exact Int.le_refl _
  | d + 1, i, x, y, hx, hy => by
    have hlt : i + d < l.length := by
      rcases Nat.lt_or_ge (i + (d + 1)) l.length with h' | h'
      · omega
      · rw [List.getElem?_eq_none h'] at hy; cases hy
    have h1 := asc_le h d i hx (List.getElem?_eq_getElem hlt)
    have h2 := h (i + d) _ y (List.getElem?_eq_getElem hlt) (by rw [show i + d + 1 = i + (d + 1) by omega]; exact hy)
    omega
theorem inR_iff {own : List Int} (ha : Asc own) {m : Nat} {a z : Int} (h0 : own[0]? = some a) (h1 : own[own.length - 1]? = some z) : InR own m ↔ (0 ≤ a ∧ z < m) := by
  constructor
  · intro h; exact ⟨(h a (List.mem_of_getElem? h0)).1, (h z (List.mem_of_getElem? h1)).2⟩
  · rintro ⟨h2, h3⟩ i hi
    obtain ⟨j, hj⟩ := List.mem_iff_getElem?.1 hi
    have hlt : j < own.length := by rcases Nat.lt_or_ge j own.length with h | h; exact h; rw [List.getElem?_eq_none h] at hj; cases hj
    have h4 := asc_le ha j 0 h0 (by rw [Nat.zero_add]; exact hj)
    have h5 := asc_le ha (own.length - 1 - j) j hj (by rw [show j + (own.length - 1 - j) = own.length - 1 by omega]; exact h1)
    omega
theorem last_int {l : List Int} {z : Int} (h0 : 0 < l.length) (h : l[l.length - 1]? = some z) : (l.map fun n => [int n])[(((l.length : Nat) : Int) - 1).toNat]? = some [int z] := by
  rw [show (((l.length : Nat) : Int) - 1).toNat = l.length - 1 by omega, List.getElem?_map, h]; rfl

set_option maxRecDepth 20000 in
theorem w_indices {l : List Fnd} {n : Int} {own : List Int} (ha : Asc own) (hs : own.length ≤ 12) : Fun Tryz.prog 35 [fnds l, entP n own] (tup [ints own, bool (decide (InR own l.length))]) := by
 refine Fun.of Tryz.func35 rfl rfl (by exact Nat.le_of_ble_eq_true rfl) fun M0 w0 => ?_
 refine Tr.lenm 0 rfl fun hlm_0 => ?_
 refine Tr.seq ?_
 refine Tr.reg0 ?_
 refine Ch.op rfl rfl (by decide) (ok_box rfl (VL.le (vl rfl) (agg_cellsP _))) ?_
 refine Ch.op rfl rfl (by decide) (ok_assign rfl (vl rfl)) ?_
 refine Ch.op rfl rfl (by decide) (ok_assign rfl (vl rfl)) ?_
 refine Ch.nil ?_
 refine Fin.go ?_
 refine Tr.seq ?_
 refine Tr.reg0 ?_
 refine Ch.op rfl rfl (by decide) (ok_fieldAddr rfl fo35_3 (vl rfl) rfl) ?_
 refine Ch.op rfl rfl (by decide) (ok_load1 rfl one22 (vl rfl)) ?_
 refine Ch.op rfl rfl (by decide) (ok_call rfl (w_CloneP (by omega)) ⟨⟨_, rfl, Pr.le_refl _⟩, trivial⟩) ?_
 refine Ch.op rfl rfl (by decide) (ok_assign rfl (vl rfl)) ?_
 refine Ch.nil ?_
 refine Fin.go ?_
 refine Tr.seq ?_
 refine Tr.reg0 ?_
 refine Ch.op rfl rfl (by decide) (ok_move rfl (vl rfl)) ?_
 refine Ch.op rfl rfl (by decide) (ok_call rfl (w_SortAsc (by assumption) (by omega)) ⟨⟨_, rfl, Pr.le_refl _⟩, trivial⟩) ?_
 refine Ch.nil ?_
 refine Fin.go ?_
 refine Tr.seq ?_
 refine Tr.reg0 ?_
 refine Ch.op rfl rfl (by decide) (ok_move rfl (vl rfl)) ?_
 refine Ch.op rfl rfl (by decide) (ok_call rfl (w_CompAscI (by assumption) (by omega)) ⟨⟨_, rfl, Pr.le_refl _⟩, trivial⟩) ?_
 refine Ch.op rfl rfl (by decide) (ok_assign rfl (vl rfl)) ?_
 refine Ch.nil ?_
 refine Fin.go ?_
 refine Tr.seq ?_
 refine Tr.reg1 mixed (by kernel_rfl) ?_
 refine Ch.op rfl rfl (by decide) (ok_move rfl (vl rfl)) ?_
 refine Ch.op rfl rfl (by decide) (ok_move rfl (vl rfl)) ?_
 first
  | refine Ch.op rfl rfl (by decide) (ok_lenm rfl Tryz.underlying22 (vl rfl)) ?_
  | refine Ch.op rfl rfl (by decide) (ok_len rfl Tryz.underlying22 (vl rfl)) ?_
 refine Ch.op rfl rfl (by decide) (ok_int rfl (vl rfl) (vl rfl) rfl) ?_
 refine Ch.op rfl rfl (by decide) (ok_move rfl (vl rfl)) ?_
 refine Ch.cases 18 rfl (fun h1 => ?_) (fun h1 => ?_)
 ·
  have q1 := Nrm.nrm h1
  refine Ch.no rfl rfl rfl (ne_false h1) rfl (by decide) ?_
  refine Ch.no rfl rfl rfl (ne_false h1) rfl (by decide) ?_
  refine Ch.no rfl rfl rfl (ne_false h1) rfl (by decide) ?_
  refine Ch.no rfl rfl rfl (ne_false h1) rfl (by decide) ?_
  refine Ch.no rfl rfl rfl (ne_false h1) rfl (by decide) ?_
  refine Ch.un rfl rfl rfl rfl (by decide) ?_
  refine Ch.un rfl rfl rfl rfl (by decide) ?_
  refine Ch.un rfl rfl rfl rfl (by decide) ?_
  refine Ch.un rfl rfl rfl rfl (by decide) ?_
  refine Ch.un rfl rfl rfl rfl (by decide) ?_
  refine Ch.un rfl rfl rfl rfl (by decide) ?_
  refine Ch.un rfl rfl rfl rfl (by decide) ?_
  refine Ch.un rfl rfl rfl rfl (by decide) ?_
  refine Ch.un rfl rfl rfl rfl (by decide) ?_
  refine Ch.no rfl rfl rfl (ne_false h1) rfl (by decide) ?_
  refine Ch.op rfl rfl (by decide) (ok_pick_t rfl (vl rfl) h1 (vl rfl)) ?_
  refine Ch.op rfl rfl (by decide) (ok_assign rfl (vl rfl)) ?_
  refine Ch.op rfl rfl (by decide) (ok_assign rfl (vl rfl)) ?_
  refine Ch.nil ?_
  refine Fin.go ?_
  refine Tr.weak [(4, _), (5, _)] ⟨⟨_, rfl, Pr.le_refl _⟩, ⟨_, rfl, Pr.le_refl _⟩, trivial⟩ ?_
  refine Tr.ret ?_
  refine Fin.ret2 rfl (OutW.bse _ _) rfl ?_ rfl ?_
  · first | exact Pr.le_refl _ | (refine int_eq ?_; simp_all; done) | (refine bool_eq ?_; simp_all; done) | (refine bool_eq ?_; simp_all; omega) | (refine int_eq ?_; omega)
  · refine bool_eq ?_; symm; rw [decide_eq_true_eq]; intro i hi; have hn : own = [] := List.eq_nil_of_length_eq_zero (by omega); rw [hn] at hi; cases hi
 ·
  have q1 := Nrm.nrm h1
  have hpos : 0 < own.length := by omega
  obtain ⟨a, h0⟩ := at_ (l := own) (k := 0) hpos
  obtain ⟨z, hz⟩ := at_ (l := own) (k := own.length - 1) (by omega)
  have hiff := inR_iff ha (m := l.length) h0 hz
  refine Ch.yes rfl rfl rfl h1 rfl (by decide) (ok_move rfl (vl rfl)) ?_
  refine Ch.yes rfl rfl rfl h1 rfl (by decide) (ok_indexAddr rfl Tryz.underlying22 sz3 (vl rfl) (vl rfl) (by omega) (row_at (k := 0) h0)) ?_
  refine Ch.yes rfl rfl rfl h1 rfl (by decide) (ok_load1 rfl one3 (vl rfl)) ?_
  refine Ch.yes rfl rfl rfl h1 rfl (by decide) (ok_int rfl (vl rfl) (vl rfl) rfl) ?_
  refine Ch.yes rfl rfl rfl h1 rfl (by decide) (ok_move rfl (vl rfl)) ?_
  refine Ch.cases 23 rfl (fun h2 => ?_) (fun h2 => ?_)
  ·
   have q2 := Nrm.nrm h2
   refine Ch.yes rfl rfl rfl h2 rfl (by decide) (ok_move rfl (vl rfl)) ?_
   refine Ch.yes rfl rfl rfl h2 rfl (by decide) (ok_move rfl (vl rfl)) ?_
   first
    | refine Ch.yes rfl rfl rfl h2 rfl (by decide) (ok_lenm rfl Tryz.underlying22 (vl rfl)) ?_
    | refine Ch.yes rfl rfl rfl h2 rfl (by decide) (ok_len rfl Tryz.underlying22 (vl rfl)) ?_
   first
    | (refine Ch.yes rfl rfl rfl h2 rfl (by decide) (ok_sub rfl (vl rfl) (vl rfl) ?hin) ?_; case hin => unfold InI; omega)
    | refine Ch.yes rfl rfl rfl h2 rfl (by decide) (ok_int rfl (vl rfl) (vl rfl) rfl) ?_
   refine Ch.yes rfl rfl rfl h2 rfl (by decide) (ok_indexAddr rfl Tryz.underlying22 sz3 (vl rfl) (vl rfl) (by omega) (last_int hpos hz)) ?_
   refine Ch.yes rfl rfl rfl h2 rfl (by decide) (ok_load1 rfl one3 (vl rfl)) ?_
   refine Ch.yes rfl rfl rfl h2 rfl (by decide) (ok_move rfl (vl rfl)) ?_
   first
    | refine Ch.yes rfl rfl rfl h2 rfl (by decide) (ok_lenm rfl Tryz.underlying27 (vl rfl)) ?_
    | refine Ch.yes rfl rfl rfl h2 rfl (by decide) (ok_len rfl Tryz.underlying27 (vl rfl)) ?_
   refine Ch.yes rfl rfl rfl h2 rfl (by decide) (ok_int rfl (vl rfl) (vl rfl) rfl) ?_
   refine Ch.yes rfl rfl rfl h1 rfl (by decide) (ok_pick_t rfl (vl rfl) h2 (vl rfl)) ?_
   refine Ch.op rfl rfl (by decide) (ok_pick_f rfl (vl rfl) h1 (vl rfl)) ?_
   refine Ch.op rfl rfl (by decide) (ok_assign rfl (vl rfl)) ?_
   refine Ch.op rfl rfl (by decide) (ok_assign rfl (vl rfl)) ?_
   refine Ch.nil ?_
   refine Fin.go ?_
   refine Tr.weak [(4, _), (5, _)] ⟨⟨_, rfl, Pr.le_refl _⟩, ⟨_, rfl, Pr.le_refl _⟩, trivial⟩ ?_
   refine Tr.ret ?_
   refine Fin.ret2 rfl (OutW.bse _ _) rfl ?_ rfl ?_
   · first | exact Pr.le_refl _ | (refine int_eq ?_; simp_all; done) | (refine bool_eq ?_; simp_all; done) | (refine bool_eq ?_; simp_all; omega) | (refine int_eq ?_; omega)
   · refine bool_eq ?_; rw [decide_eq_decide, hiff]; omega
  ·
   have q2 := Nrm.nrm h2
   refine Ch.no rfl rfl rfl (ne_true h2) rfl (by decide) ?_
   refine Ch.no rfl rfl rfl (ne_true h2) rfl (by decide) ?_
   refine Ch.no rfl rfl rfl (ne_true h2) rfl (by decide) ?_
   refine Ch.no rfl rfl rfl (ne_true h2) rfl (by decide) ?_
   refine Ch.no rfl rfl rfl (ne_true h2) rfl (by decide) ?_
   refine Ch.no rfl rfl rfl (ne_true h2) rfl (by decide) ?_
   refine Ch.no rfl rfl rfl (ne_true h2) rfl (by decide) ?_
   refine Ch.no rfl rfl rfl (ne_true h2) rfl (by decide) ?_
   refine Ch.no rfl rfl rfl (ne_true h2) rfl (by decide) ?_
   refine Ch.yes rfl rfl rfl h1 rfl (by decide) (ok_pick_f rfl (vl rfl) h2 (vl rfl)) ?_
   refine Ch.op rfl rfl (by decide) (ok_pick_f rfl (vl rfl) h1 (vl rfl)) ?_
   refine Ch.op rfl rfl (by decide) (ok_assign rfl (vl rfl)) ?_
   refine Ch.op rfl rfl (by decide) (ok_assign rfl (vl rfl)) ?_
   refine Ch.nil ?_
   refine Fin.go ?_
   refine Tr.weak [(4, _), (5, _)] ⟨⟨_, rfl, Pr.le_refl _⟩, ⟨_, rfl, Pr.le_refl _⟩, trivial⟩ ?_
   refine Tr.ret ?_
   refine Fin.ret2 rfl (OutW.bse _ _) rfl ?_ rfl ?_
   · first | exact Pr.le_refl _ | (refine int_eq ?_; simp_all; done) | (refine bool_eq ?_; simp_all; done) | (refine bool_eq ?_; simp_all; omega) | (refine int_eq ?_; omega)
   · refine bool_eq ?_; symm; rw [decide_eq_false_iff_not, hiff]; omega
end Go.Proofs.YthmnoekgicggnaaGreat
namespace Go.Proofs.YthmnoekgicggnaaGreat
open Go Go.RowKit Cp
set_option maxRecDepth 20000 in
theorem w_ins1F {rows : List (List Pr)} {b : Int} (hb : b ≤ 1) : Fun Tryz.prog 105 [slice 8 rows, int 0, int b, any] (unit_) := by
 refine Fun.of Tryz.func105 rfl rfl (by exact Nat.le_of_ble_eq_true rfl) fun M0 w0 => ?_
 refine Tr.seq ?_
 refine Tr.reg0 ?_
 refine Ch.op rfl rfl (by decide) (ok_move rfl (vl rfl)) ?_
 first
  | (refine Ch.op rfl rfl (by decide) (ok_add rfl (vl rfl) (vl rfl) ?hin) ?_; case hin => unfold InI; omega)
  | refine Ch.op rfl rfl (by decide) (ok_int rfl (vl rfl) (vl rfl) rfl) ?_
 refine Ch.op rfl rfl (by decide) (ok_assign rfl (vl rfl)) ?_
 refine Ch.nil ?_
 refine Fin.go ?_
 refine Tr.block ?_
 refine Tr.loopw [(0, _), (1, _), (2, _), (3, _)] ⟨⟨_, rfl, Pr.le_refl _⟩, ⟨_, rfl, Pr.le_refl _⟩, ⟨_, rfl, Pr.le_refl _⟩, ⟨_, rfl, Pr.le_refl _⟩, trivial⟩ (fun i : Int => [(8, int i)]) (fun i : Int => i = 1) (fun i : Int => 0) 1 (rfl) ⟨⟨_, rfl, Pr.le_refl _⟩, trivial⟩ ?_
 rintro i hi
 refine Tr.seq ?_
 refine Tr.seq ?_
 refine Tr.reg0 ?_
 refine Ch.op rfl rfl (by decide) (ok_move rfl (vl rfl)) ?_
 refine Ch.op rfl rfl (by decide) (ok_move rfl (vl rfl)) ?_
 refine Ch.op rfl rfl (by decide) (ok_int rfl (vl rfl) (vl rfl) rfl) ?_
 refine Ch.nil ?_
 refine Fin.go ?_
 refine Tr.cond rfl (fun h1 => ?_) (fun h1 => ?_)
 ·
  have q1 := Nrm.nrm h1
  have := h1
  exfalso; omega
 ·
  have q1 := Nrm.nrm h1
  have := h1
  refine Tr.exit ?_
  refine Fin.then_exit ?_
  refine Fin.then_exit ?_
  refine Fin.block_here ?_
  exact Fin.ret0 rfl
set_option maxRecDepth 20000 in
theorem w_pdq1F {rows : List (List Pr)} {b : Int} (h0 : 0 ≤ b) (hb : b ≤ 1) : Fun Tryz.prog 65 [slice 8 rows, int 0, int b, any, any] (unit_) := by
 refine Fun.of Tryz.func65 rfl rfl (by exact Nat.le_of_ble_eq_true rfl) fun M0 w0 => ?_
 refine Tr.seq ?_
 refine Tr.reg0 ?_
 refine Ch.op rfl rfl (by decide) (ok_assign rfl (vl rfl)) ?_
 refine Ch.nil ?_
 refine Fin.go ?_
 refine Tr.seq ?_
 refine Tr.reg0 ?_
 refine Ch.op rfl rfl (by decide) (ok_assign rfl (vl rfl)) ?_
 refine Ch.nil ?_
 refine Fin.go ?_
 refine Tr.block ?_
 refine Tr.loopw [(0, _), (4, _)] ⟨⟨_, rfl, Pr.le_refl _⟩, ⟨_, rfl, Pr.le_refl _⟩, trivial⟩ (fun (u : Unit) => [(1, int 0), (2, int b)]) (fun (u : Unit) => True) (fun (u : Unit) => 0) () (trivial) ⟨⟨_, rfl, Pr.le_refl _⟩, ⟨_, rfl, Pr.le_refl _⟩, trivial⟩ ?_
 rintro u _
 refine Tr.block ?_
 refine Tr.seq ?_
 refine Tr.reg0 ?_
 refine Ch.op rfl rfl (by decide) (ok_move rfl (vl rfl)) ?_
 refine Ch.op rfl rfl (by decide) (ok_move rfl (vl rfl)) ?_
 first
  | (refine Ch.op rfl rfl (by decide) (ok_sub rfl (vl rfl) (vl rfl) ?hin) ?_; case hin => unfold InI; omega)
  | refine Ch.op rfl rfl (by decide) (ok_int rfl (vl rfl) (vl rfl) rfl) ?_
 refine Ch.op rfl rfl (by decide) (ok_assign rfl (vl rfl)) ?_
 refine Ch.nil ?_
 refine Fin.go ?_
 refine Tr.seq ?_
 refine Tr.seq ?_
 refine Tr.reg0 ?_
 refine Ch.op rfl rfl (by decide) (ok_move rfl (vl rfl)) ?_
 refine Ch.op rfl rfl (by decide) (ok_int rfl (vl rfl) (vl rfl) rfl) ?_
 refine Ch.nil ?_
 refine Fin.go ?_
 refine Tr.cond rfl (fun h1 => ?_) (fun h1 => ?_)
 ·
  have q1 := Nrm.nrm h1
  refine Tr.seq ?_
  refine Tr.reg0 ?_
  refine Ch.op rfl rfl (by decide) (ok_move rfl (vl rfl)) ?_
  refine Ch.op rfl rfl (by decide) (ok_move rfl (vl rfl)) ?_
  refine Ch.op rfl rfl (by decide) (ok_move rfl (vl rfl)) ?_
  refine Ch.op rfl rfl (by decide) (ok_move rfl (vl rfl)) ?_
  refine Ch.op rfl rfl (by decide) (ok_call rfl (w_ins1F (by omega)) ⟨⟨_, rfl, Pr.le_refl _⟩, ⟨_, rfl, Pr.le_refl _⟩, ⟨_, rfl, Pr.le_refl _⟩, ⟨_, rfl, Pr.le_refl _⟩, trivial⟩) ?_
  refine Ch.nil ?_
  refine Fin.go ?_
  refine Tr.weak [] trivial ?_
  refine Tr.ret ?_
  refine Fin.then_ret ?_
  refine Fin.block_ret ?_
  refine Fin.then_ret ?_
  refine Fin.block_ret ?_
  exact Fin.ret0r rfl
 ·
  have q1 := Nrm.nrm h1
  exfalso; omega
set_option maxRecDepth 20000 in
theorem w_Sort1F {rows : List (List Pr)} (hs : rows.length ≤ 1) : Fun Tryz.prog 38 [slice 8 rows, any] (unit_) := by
 refine Fun.of Tryz.func38 rfl rfl (by exact Nat.le_of_ble_eq_true rfl) fun M0 w0 => ?_
 have hw : IntKind.u64.wrap ((rows.length : Nat) : Int) = rows.length := IntWalk.u64_in _ ⟨by omega, by omega⟩
 refine Tr.seq ?_
 refine Tr.reg0 ?_
 refine Ch.op rfl rfl (by decide) (ok_move rfl (vl rfl)) ?_
 first
  | refine Ch.op rfl rfl (by decide) (ok_lenm rfl Tryz.underlying29 (vl rfl)) ?_
  | refine Ch.op rfl rfl (by decide) (ok_len rfl Tryz.underlying29 (vl rfl)) ?_
 refine Ch.op rfl rfl (by decide) (ok_assign rfl (vl rfl)) ?_
 refine Ch.nil ?_
 refine Fin.go ?_
 refine Tr.reg0 ?_
 refine Ch.op rfl rfl (by decide) (ok_move rfl (vl rfl)) ?_
 refine Ch.op rfl rfl (by decide) (ok_move rfl (vl rfl)) ?_
 refine Ch.op rfl rfl (by decide) (ok_move rfl (vl rfl)) ?_
 first
  | refine Ch.op rfl rfl (by decide) (ok_convI rfl Tryz.underlying3 Tryz.underlying105 (vl rfl) (by unfold InI; omega)) ?_
  | refine Ch.op rfl rfl (by decide) (ok_conv rfl Tryz.underlying3 Tryz.underlying105 (vl rfl)) ?_
 refine Ch.op rfl rfl (by decide) (ok_call rfl (w_BLen (by omega) (by omega)) ⟨⟨_, rfl, Pr.le_refl _⟩, trivial⟩) ?_
 refine Ch.op rfl rfl (by decide) (ok_move rfl (vl rfl)) ?_
 refine Ch.op rfl rfl (by decide) (ok_call rfl (w_pdq1F (rows := rows) (b := (rows.length : Int)) (by omega) (by omega)) ⟨⟨_, rfl, Pr.le_refl _⟩, ⟨_, rfl, Pr.le_refl _⟩, ⟨_, rfl, Pr.le_refl _⟩, ⟨_, rfl, le_any _⟩, ⟨_, rfl, le_any _⟩, trivial⟩) ?_
 refine Ch.nil ?_
 exact Fin.ret0 rfl
/-- A fact. -/
structure Fct where
  ent : Int
  subj : List UInt8
  kind : Int
  alg : Int
  bits : Int
  num : Int
  text : List UInt8
  fnd : Int
deriving DecidableEq
abbrev rowFc (f : Fct) : List Pr := [int f.ent, str f.subj, int f.kind, int f.alg, int f.bits, int f.num, str f.text, int f.fnd]
abbrev fcts (l : List Fct) : Pr := slice 8 (l.map rowFc)
abbrev better (f g : Fnd) : Prop := f.day > g.day ∨ f.day = g.day ∧ f.conf > g.conf
/-- What one more finding makes of the decisive ones. -/
def stepM (l : List Fnd) (t o : Int) (m : List (Plc × Int)) (i : Int) : List (Plc × Int) :=
  match l[i.toNat]? with
  | none => m
  | some f => if f.day > t ∨ f.day < t - o then m else match Cp.look m (plcOf f) with
    | none => updM m (plcOf f) i
    | some j => match l[j.toNat]? with
      | none => m
      | some g => if better f g then updM m (plcOf f) i else m
def decM (l : List Fnd) (own : List Int) (t o : Int) : List (Plc × Int) := own.foldl (stepM l t o) []
theorem dec_take {l : List Fnd} {own : List Int} {t o : Int} {k : Nat} {i : Int} (h : own[k]? = some i) : decM l (own.take (k + 1)) t o = stepM l t o (decM l (own.take k) t o) i := by
  unfold decM; rw [List.take_add_one, h, List.foldl_append]; rfl
theorem step_out {l : List Fnd} {t o : Int} {m : List (Plc × Int)} {i : Int} {f : Fnd} (hf : l[i.toNat]? = some f) (h : f.day > t ∨ f.day < t - o) : stepM l t o m i = m := by unfold stepM; rw [hf]; exact if_pos h
theorem step_new {l : List Fnd} {t o : Int} {m : List (Plc × Int)} {i : Int} {f : Fnd} (hf : l[i.toNat]? = some f) (h : ¬ (f.day > t ∨ f.day < t - o)) (hl : (Cp.look m (plcOf f)).isSome = false) : stepM l t o m i = updM m (plcOf f) i := by
  unfold stepM; rw [hf]
  show (if _ then _ else _) = _
  rw [if_neg h]
  cases h2 : Cp.look m (plcOf f) with
  | none => rfl
  | some j => rw [h2] at hl; cases hl
theorem step_old {l : List Fnd} {t o : Int} {m : List (Plc × Int)} {i : Int} {f g : Fnd} (hf : l[i.toNat]? = some f) (h : ¬ (f.day > t ∨ f.day < t - o)) (hl : (Cp.look m (plcOf f)).isSome = true) (hg : l[((Cp.look m (plcOf f)).getD 0).toNat]? = some g) : stepM l t o m i = if better f g then updM m (plcOf f) i else m := by
  unfold stepM; rw [hf]
  show (if _ then _ else _) = _
  rw [if_neg h]
  cases h2 : Cp.look m (plcOf f) with
  | none => rw [h2] at hl; cases hl
  | some j => rw [h2] at hg; simp only [Option.getD_some] at hg; simp only [hg]
theorem look_mem {m : List (Plc × Int)} {k : Plc} {j : Int} (h : Cp.look m k = some j) : ∃ p ∈ m, p.2 = j := by
  unfold Cp.look at h
  cases hf : m.find? fun p => decide (k = p.1) with
  | none => rw [hf] at h; cases h
  | some p => rw [hf] at h; simp at h; exact ⟨p, List.mem_of_find?_eq_some hf, h⟩
theorem upd_mem {m : List (Plc × Int)} {k : Plc} {v : Int} {p : Plc × Int} (h : p ∈ updM m k v) : p ∈ m ∨ p = (k, v) := by
  unfold updM at h
  split at h
  · exact (List.mem_or_eq_of_mem_set h)
  · simpa using h
abbrev ValsIn (m : List (Plc × Int)) (n : Nat) : Prop := ∀ p ∈ m, 0 ≤ p.2 ∧ p.2 < (n : Int)
theorem step_in {l : List Fnd} {t o : Int} {m : List (Plc × Int)} {i : Int} {n : Nat} (h : ValsIn m n) (hi : 0 ≤ i ∧ i < (n : Int)) : ValsIn (stepM l t o m i) n := by
  intro p hp
  have hu : ∀ k, p ∈ updM m k i → 0 ≤ p.2 ∧ p.2 < (n : Int) := fun k hk => by
    rcases upd_mem hk with h1 | rfl
    · exact h p h1
    · exact hi
  unfold stepM at hp
  split at hp
  · exact h p hp
  · split at hp
    · exact h p hp
    · split at hp
      · exact hu _ hp
      · split at hp
        · exact h p hp
        · split at hp
          · exact hu _ hp
          · exact h p hp
theorem dec_in {l : List Fnd} {t o : Int} {n : Nat} : ∀ (own : List Int) (m : List (Plc × Int)), ValsIn m n → InR own n → ValsIn (own.foldl (stepM l t o) m) n
  | [], _, h, _ => h
  | i :: own, m, h, hi => dec_in own _ (step_in h (hi i (by simp))) (fun j hj => hi j (List.mem_cons_of_mem _ hj))
theorem dec_in' {l : List Fnd} {t o : Int} {own : List Int} (k : Nat) (hi : InR own l.length) : ValsIn (decM l (own.take k) t o) l.length := dec_in _ [] (by intro p hp; simp at hp) (fun j hj => hi j (List.mem_of_mem_take hj))
theorem look_in {m : List (Plc × Int)} {n : Nat} (h : ValsIn m n) {k : Plc} (hs : (Cp.look m k).isSome = true) : 0 ≤ (Cp.look m k).getD 0 ∧ (Cp.look m k).getD 0 < (n : Int) := by
  cases h2 : Cp.look m k with
  | none => rw [h2] at hs; cases hs
  | some j => obtain ⟨p, hp, rfl⟩ := look_mem h2; exact h p hp
/-- The fact of a finding. -/
def factOf (l : List Fnd) (n i : Int) : Option Fct := match l[i.toNat]? with | some f => if f.kind = 8 then none else some ⟨n, f.subj, f.kind, f.alg, f.bits, f.num, f.text, i⟩ | none => none
def outF (l : List Fnd) (n : Int) (m : List (Plc × Int)) (seen : List Nat) : List Fct := seen.filterMap fun q => (m[q]?).bind fun p => factOf l n p.2
theorem nodup_sub : ∀ {l m : List Nat}, l.Nodup → (∀ q ∈ l, q ∈ m) → l.length ≤ m.length
  | [], _, _, _ => Nat.zero_le _
  | a :: l, m, hn, h => by
    have h1 := List.nodup_cons.1 hn
    have h2 := nodup_sub (l := l) (m := m.erase a) h1.2 (fun q hq => (List.mem_erase_of_ne (by rintro rfl; exact h1.1 hq)).2 (h q (List.mem_cons_of_mem _ hq)))
    have h3 := List.length_erase_of_mem (h a (by simp))
    have h4 : 0 < m.length := List.length_pos_of_mem (h a (by simp))
    simp only [List.length_cons]; omega
theorem nodup_len {m : Nat} {l : List Nat} (hn : l.Nodup) (h : ∀ q ∈ l, q < m) : l.length ≤ m := by
  simpa using nodup_sub hn (m := List.range m) (fun q hq => List.mem_range.2 (h q hq))
theorem outF_len (l : List Fnd) (n : Int) (m : List (Plc × Int)) (seen : List Nat) : (outF l n m seen).length ≤ seen.length := List.length_filterMap_le _ _
theorem fm_one {α β : Type} (f : α → Option β) (q : α) : [q].filterMap f = (f q).toList := by
  cases h : f q <;> simp [h]
theorem outF_snoc (l : List Fnd) (n : Int) (m : List (Plc × Int)) (seen : List Nat) (q : Nat) : outF l n m (seen ++ [q]) = outF l n m seen ++ ((m[q]?).bind fun p => factOf l n p.2).toList := by
  unfold outF; rw [List.filterMap_append, fm_one]
theorem seen_next {seen : List Nat} {q m : Nat} (hn : seen.Nodup) (hl : ∀ x ∈ seen, x < m) (hq : q ∉ seen) (hqm : q < m) : ((seen ++ [q]).Nodup ∧ ∀ x ∈ seen ++ [q], x < m) ∧ m - (seen ++ [q]).length < m - seen.length := by
  have h1 : (seen ++ [q]).Nodup := by
    rw [List.nodup_append]; exact ⟨hn, by simp, fun a ha b hb => by simp at hb; subst hb; rintro rfl; exact hq ha⟩
  have h2 : ∀ x ∈ seen ++ [q], x < m := fun x hx => by
    rcases List.mem_append.1 hx with h | h
    · exact hl x h
    · simp at h; subst h; exact hqm
  have h3 := nodup_len h1 h2
  refine ⟨⟨h1, h2⟩, ?_⟩
  simp only [List.length_append, List.length_cons, List.length_nil] at h3 ⊢; omega
theorem lt_of_at {α : Type} {l : List α} {k : Nat} {x : α} (h : l[k]? = some x) : k < l.length := by
  rcases Nat.lt_or_ge k l.length with h' | h'
  · exact h'
  · rw [List.getElem?_eq_none h'] at h; cases h
theorem fact_no {l : List Fnd} {n i : Int} {g : Fnd} (hg : l[i.toNat]? = some g) (h : g.kind = 8) : factOf l n i = none := by unfold factOf; rw [hg]; exact if_pos h
theorem fact_yes {l : List Fnd} {n i : Int} {g : Fnd} (hg : l[i.toNat]? = some g) (h : ¬ g.kind = 8) : factOf l n i = some ⟨n, g.subj, g.kind, g.alg, g.bits, g.num, g.text, i⟩ := by unfold factOf; rw [hg]; exact if_neg h
theorem outF_all {l : List Fnd} {n : Int} {m : List (Plc × Int)} {seen : List Nat} (h1 : m.length ≤ 1) (hn : seen.Nodup) (hlt : ∀ q ∈ seen, q < m.length) (hall : ∀ q, q < m.length → q ∈ seen) : outF l n m seen = m.filterMap fun p => factOf l n p.2 := by
  have hlen := nodup_len hn hlt
  match m, h1 with
  | [], _ =>
    have : seen = [] := List.eq_nil_of_length_eq_zero (by simpa using hlen)
    subst this; rfl
  | [p], _ =>
    have h0 := hall 0 (by simp)
    match seen, hlen with
    | [], _ => cases h0
    | [q], _ => simp at h0; subst h0; unfold outF; rw [fm_one, fm_one]; rfl
    | a :: b :: r, h => simp only [List.length_cons, List.length_nil] at h; omega

set_option maxRecDepth 20000 in
theorem w_Facts1 {l : List Fnd} {n t o : Int} {own : List Int} (hN : NormP l) (hf : ∀ f ∈ l, f.fits) (ht : 0 ≤ t ∧ t ≤ 40000) (ho : 0 ≤ o ∧ o ≤ 4000) (ha : Asc own) (hi : InR own l.length) (hs : own.length ≤ 12) (h1m : (decM l own t o).length ≤ 1) : Fun Tryz.prog 12 [fnds l, entP n own, int t, int o] (tup [fcts ((decM l own t o).filterMap fun p => factOf l n p.2), int 0]) := by
 refine Fun.of Tryz.func12 rfl rfl (by exact Nat.le_of_ble_eq_true rfl) fun M0 w0 => ?_
 haveI := Classical.propDecidable (NormP l)
 obtain ⟨ht1, ht2⟩ := ht
 obtain ⟨ho1, ho2⟩ := ho
 have hNl := hN.len
 refine Tr.seq ?_
 refine Tr.reg0 ?_
 refine Ch.op rfl rfl (by decide) (ok_box rfl (VL.le (vl rfl) (agg_cellsP _))) ?_
 refine Ch.op rfl rfl (by decide) (ok_assign rfl (vl rfl)) ?_
 refine Ch.op rfl rfl (by decide) (ok_assign rfl (vl rfl)) ?_
 refine Ch.nil ?_
 refine Fin.go ?_
 refine Tr.seq ?_
 refine Tr.reg0 ?_
 refine Ch.op rfl rfl (by decide) (ok_move rfl (vl rfl)) ?_
 refine Ch.op rfl rfl (by decide) (ok_loadA rfl agg35 sz35 (vl rfl) rfl rfl) ?_
 refine Ch.op rfl rfl (by decide) (ok_call rfl (w_indices (by assumption) (by assumption)) ⟨⟨_, rfl, Pr.le_refl _⟩, ⟨_, rfl, Pr.le_refl _⟩, trivial⟩) ?_
 refine Ch.op rfl rfl (by decide) (ok_move rfl (vl rfl)) ?_
 refine Ch.op rfl rfl (by decide) (ok_extract rfl (vl rfl) rfl) ?_
 refine Ch.op rfl rfl (by decide) (ok_extract rfl (vl rfl) rfl) ?_
 refine Ch.op rfl rfl (by decide) (ok_assign rfl (vl rfl)) ?_
 refine Ch.op rfl rfl (by decide) (ok_assign rfl (vl rfl)) ?_
 refine Ch.nil ?_
 refine Fin.go ?_
 refine Tr.seq ?_
 refine Tr.block ?_
 refine Tr.seq ?_
 refine Tr.reg0 ?_
 refine Ch.op rfl rfl (by decide) (ok_move rfl (vl rfl)) ?_
 refine Ch.op rfl rfl (by decide) (ok_call rfl (w_FNormal (by assumption)) ⟨⟨_, rfl, Pr.le_refl _⟩, trivial⟩) ?_
 refine Ch.op rfl rfl (by decide) (ok_not rfl (vl rfl)) ?_
 refine Ch.op rfl rfl (by decide) (ok_assign rfl (vl rfl)) ?_
 refine Ch.nil ?_
 refine Fin.go ?_
 refine Tr.weak [(0, _), (2, _), (3, _), (5, _), (10, _), (11, _), (28, _)] ⟨⟨_, rfl, Pr.le_refl _⟩, ⟨_, rfl, Pr.le_refl _⟩, ⟨_, rfl, Pr.le_refl _⟩, ⟨_, rfl, Pr.le_refl _⟩, ⟨_, rfl, Pr.le_refl _⟩, ⟨_, rfl, Pr.le_refl _⟩, ⟨_, rfl, Pr.le_refl _⟩, trivial⟩ ?_
 refine Tr.cond rfl (fun h1 => ?_) (fun h1 => ?_)
 ·
  have q1 := Nrm.nrm h1
  exfalso; simp_all
 ·
  have q1 := Nrm.nrm h1
  refine Tr.seq ?_
  refine Tr.reg0 ?_
  refine Ch.op rfl rfl (by decide) (ok_move rfl (vl rfl)) ?_
  refine Ch.op rfl rfl (by decide) (ok_int rfl (vl rfl) (vl rfl) rfl) ?_
  refine Ch.op rfl rfl (by decide) (ok_move rfl (vl rfl)) ?_
  refine Ch.cases 35 rfl (fun h2 => ?_) (fun h2 => ?_)
  ·
   have q2 := Nrm.nrm h2
   exfalso; omega
  ·
   have q2 := Nrm.nrm h2
   refine Ch.yes rfl rfl rfl h2 rfl (by decide) (ok_move rfl (vl rfl)) ?_
   refine Ch.yes rfl rfl rfl h2 rfl (by decide) (ok_int rfl (vl rfl) (vl rfl) rfl) ?_
   refine Ch.op rfl rfl (by decide) (ok_pick_f rfl (vl rfl) h2 (vl rfl)) ?_
   refine Ch.op rfl rfl (by decide) (ok_move rfl (vl rfl)) ?_
   refine Ch.cases 39 rfl (fun h3 => ?_) (fun h3 => ?_)
   ·
    have q3 := Nrm.nrm h3
    exfalso; omega
   ·
    have q3 := Nrm.nrm h3
    refine Ch.yes rfl rfl rfl h3 rfl (by decide) (ok_move rfl (vl rfl)) ?_
    refine Ch.yes rfl rfl rfl h3 rfl (by decide) (ok_int rfl (vl rfl) (vl rfl) rfl) ?_
    refine Ch.op rfl rfl (by decide) (ok_pick_f rfl (vl rfl) h3 (vl rfl)) ?_
    refine Ch.op rfl rfl (by decide) (ok_move rfl (vl rfl)) ?_
    refine Ch.cases 43 rfl (fun h4 => ?_) (fun h4 => ?_)
    ·
     have q4 := Nrm.nrm h4
     exfalso; omega
    ·
     have q4 := Nrm.nrm h4
     refine Ch.yes rfl rfl rfl h4 rfl (by decide) (ok_move rfl (vl rfl)) ?_
     refine Ch.yes rfl rfl rfl h4 rfl (by decide) (ok_int rfl (vl rfl) (vl rfl) rfl) ?_
     refine Ch.op rfl rfl (by decide) (ok_pick_f rfl (vl rfl) h4 (vl rfl)) ?_
     refine Ch.op rfl rfl (by decide) (ok_assign rfl (vl rfl)) ?_
     refine Ch.nil ?_
     refine Fin.go ?_
     refine Tr.weak [(0, _), (2, _), (3, _), (5, _), (10, _), (11, _), (32, _)] ⟨⟨_, rfl, Pr.le_refl _⟩, ⟨_, rfl, Pr.le_refl _⟩, ⟨_, rfl, Pr.le_refl _⟩, ⟨_, rfl, Pr.le_refl _⟩, ⟨_, rfl, Pr.le_refl _⟩, ⟨_, rfl, Pr.le_refl _⟩, ⟨_, rfl, Pr.le_refl _⟩, trivial⟩ ?_
     refine Tr.cond rfl (fun h5 => ?_) (fun h5 => ?_)
     ·
      have q5 := Nrm.nrm h5
      exfalso; omega
     ·
      have q5 := Nrm.nrm h5
      refine Tr.seq ?_
      refine Tr.reg0 ?_
      refine Ch.op rfl rfl (by decide) (ok_move rfl (vl rfl)) ?_
      refine Ch.op rfl rfl (by decide) (ok_not rfl (vl rfl)) ?_
      refine Ch.op rfl rfl (by decide) (ok_assign rfl (vl rfl)) ?_
      refine Ch.nil ?_
      refine Fin.go ?_
      refine Tr.cond rfl (fun h6 => ?_) (fun h6 => ?_)
      ·
       have q6 := Nrm.nrm h6
       exfalso; simp_all
      ·
       have q6 := Nrm.nrm h6
       refine Tr.skip ?_
       refine Fin.block ?_
       refine Fin.go ?_
       refine Tr.seq ?_
       refine Tr.regT ?_
       refine TO.mkmap encPl rfl rfl (by decide) rfl (fun b1 => ?_)
       refine TO.op rfl rfl (by decide) (ok_assign rfl (vl rfl)) ?_
       refine TO.nil ?_
       refine Fin.go ?_
       refine Tr.seq ?_
       refine Tr.seq ?_
       refine Tr.reg0 ?_
       refine Ch.op rfl rfl (by decide) (ok_move rfl (vl rfl)) ?_
       first
        | refine Ch.op rfl rfl (by decide) (ok_lenm rfl Tryz.underlying22 (vl rfl)) ?_
        | refine Ch.op rfl rfl (by decide) (ok_len rfl Tryz.underlying22 (vl rfl)) ?_
       refine Ch.op rfl rfl (by decide) (ok_move rfl (vl rfl)) ?_
       refine Ch.nil ?_
       refine Fin.go ?_
       refine Tr.weak [(0, _), (2, _), (3, _), (5, _), (12, _), (51, _), (52, _), (53, _)] ⟨⟨_, rfl, Pr.le_refl _⟩, ⟨_, rfl, Pr.le_refl _⟩, ⟨_, rfl, Pr.le_refl _⟩, ⟨_, rfl, Pr.le_refl _⟩, ⟨_, rfl, Pr.le_refl _⟩, ⟨_, rfl, Pr.le_refl _⟩, ⟨_, rfl, Pr.le_refl _⟩, ⟨_, rfl, Pr.le_refl _⟩, trivial⟩ ?_
       refine Tr.block ?_
       refine Tr.loopR [(0, _), (2, _), (3, _), (5, _), (12, _), (51, _), (52, _)] ⟨⟨_, rfl, Pr.le_refl _⟩, ⟨_, rfl, Pr.le_refl _⟩, ⟨_, rfl, Pr.le_refl _⟩, ⟨_, rfl, Pr.le_refl _⟩, ⟨_, rfl, Pr.le_refl _⟩, ⟨_, rfl, Pr.le_refl _⟩, ⟨_, rfl, Pr.le_refl _⟩, trivial⟩ (fun k : Nat => [(53, int ((k : Nat) : Int))]) (fun k : Nat => Hp M0 w0 noS ([mapR encPl b1 (decM l (own.take k) t o)])) (fun k : Nat => k ≤ (own).length) (fun k : Nat => (own).length - k) 0 (Nat.zero_le _) ⟨⟨_, rfl, Pr.le_refl _⟩, trivial⟩ (fun _ _ h => h) ?_
       rintro k hle_k
       refine Tr.seq ?_
       refine Tr.reg0 ?_
       refine Ch.op rfl rfl (by decide) (ok_int rfl (vl rfl) (vl rfl) rfl) ?_
       refine Ch.nil ?_
       refine Fin.go ?_
       refine Tr.seq ?_
       refine Tr.cond rfl (fun h7 => ?_) (fun h7 => ?_)
       ·
        have q7 := Nrm.nrm h7
        have hk_k : k < (own).length := lt_of_dec h7
        obtain ⟨i, hx_k⟩ := at_ hk_k
        have hii := hi i (List.mem_of_getElem? hx_k)
        obtain ⟨f, hf0⟩ := at_ (l := l) (k := i.toNat) (by omega)
        have hstep := dec_take (l := l) (t := t) (o := o) hx_k
        refine Tr.skip ?_
        refine Fin.go ?_
        refine Tr.seq ?_
        refine Tr.block ?_
        refine Tr.seq ?_
        refine Tr.reg0 ?_
        refine Ch.op rfl rfl (by decide) (ok_indexAddr rfl Tryz.underlying22 sz3 (vl rfl) (vl rfl) (by omega) (row_at hx_k)) ?_
        refine Ch.op rfl rfl (by decide) (ok_load1 rfl one3 (vl rfl)) ?_
        refine Ch.op rfl rfl (by decide) (ok_assign rfl (vl rfl)) ?_
        refine Ch.nil ?_
        refine Fin.go ?_
        refine Tr.seq ?_
        refine Tr.regT ?_
        refine TO.op rfl rfl (by decide) (ok_move rfl (vl rfl)) ?_
        refine TO.op rfl rfl (by decide) (ok_move rfl (vl rfl)) ?_
        refine TO.op rfl rfl (by decide) (ok_indexAddr rfl Tryz.underlying27 sz42 (vl rfl) (vl rfl) (by omega) (row_atI hf0)) ?_
        refine TO.op rfl rfl (by decide) (ok_loadA rfl agg42 sz42 (vl rfl) rfl rfl) ?_
        refine TO.alloc rfl rfl (by decide) rfl z42 zo42 (fun b2 => ?_)
        refine TO.store_all 0 rfl rfl rfl (vl rfl) (VL.le (vl rfl) (agg_cellsP _)) rfl sz42 rfl rfl ?_
        refine TO.freeze 0 15 rfl rfl ?_
        refine TO.nil ?_
        refine Fin.go ?_
        refine Tr.weak [(0, _), (2, _), (3, _), (5, _), (12, _), (14, _), (15, _), (51, _), (52, _), (53, _)] ⟨⟨_, rfl, Pr.le_refl _⟩, ⟨_, rfl, Pr.le_refl _⟩, ⟨_, rfl, Pr.le_refl _⟩, ⟨_, rfl, Pr.le_refl _⟩, ⟨_, rfl, Pr.le_refl _⟩, ⟨_, rfl, Pr.le_refl _⟩, ⟨_, rfl, Pr.le_refl _⟩, ⟨_, rfl, Pr.le_refl _⟩, ⟨_, rfl, Pr.le_refl _⟩, ⟨_, rfl, Pr.le_refl _⟩, trivial⟩ ?_
        refine Tr.seq ?_
        refine Tr.seq ?_
        refine Tr.reg0 ?_
        refine Ch.op rfl rfl (by decide) (ok_fieldAddr rfl fo42_3 (vl rfl) rfl) ?_
        refine Ch.op rfl rfl (by decide) (ok_load1 rfl one3 (vl rfl)) ?_
        refine Ch.op rfl rfl (by decide) (ok_move rfl (vl rfl)) ?_
        refine Ch.op rfl rfl (by decide) (ok_int rfl (vl rfl) (vl rfl) rfl) ?_
        refine Ch.op rfl rfl (by decide) (ok_move rfl (vl rfl)) ?_
        refine Ch.cases 65 rfl (fun h8 => ?_) (fun h8 => ?_)
        ·
         have q8 := Nrm.nrm h8
         refine Ch.no rfl rfl rfl (ne_false h8) rfl (by decide) ?_
         refine Ch.no rfl rfl rfl (ne_false h8) rfl (by decide) ?_
         refine Ch.no rfl rfl rfl (ne_false h8) rfl (by decide) ?_
         refine Ch.no rfl rfl rfl (ne_false h8) rfl (by decide) ?_
         refine Ch.no rfl rfl rfl (ne_false h8) rfl (by decide) ?_
         refine Ch.no rfl rfl rfl (ne_false h8) rfl (by decide) ?_
         refine Ch.op rfl rfl (by decide) (ok_pick_t rfl (vl rfl) h8 (vl rfl)) ?_
         refine Ch.nil ?_
         refine Fin.go ?_
         refine Tr.weak [(0, _), (2, _), (3, _), (5, _), (12, _), (14, _), (15, _), (51, _), (52, _), (53, _), (72, _)] ⟨⟨_, rfl, Pr.le_refl _⟩, ⟨_, rfl, Pr.le_refl _⟩, ⟨_, rfl, Pr.le_refl _⟩, ⟨_, rfl, Pr.le_refl _⟩, ⟨_, rfl, Pr.le_refl _⟩, ⟨_, rfl, Pr.le_refl _⟩, ⟨_, rfl, Pr.le_refl _⟩, ⟨_, rfl, Pr.le_refl _⟩, ⟨_, rfl, Pr.le_refl _⟩, ⟨_, rfl, Pr.le_refl _⟩, ⟨_, rfl, Pr.le_refl _⟩, trivial⟩ ?_
         refine Tr.cond rfl (fun _ => ?_) (fun h => nomatch h)
         refine Tr.exit ?_
         refine Fin.then_exit ?_
         refine Fin.block_here ?_
         refine Fin.go ?_
         refine Tr.reg0 ?_
         first
          | (refine Ch.op rfl rfl (by decide) (ok_add rfl (vl rfl) (vl rfl) ?hin) ?_; case hin => unfold InI; omega)
          | refine Ch.op rfl rfl (by decide) (ok_int rfl (vl rfl) (vl rfl) rfl) ?_
         refine Ch.op rfl rfl (by decide) (ok_move rfl (vl rfl)) ?_
         refine Ch.nil ?_
         first
          | rw [step_out hf0 (by omega)] at hstep
          | rw [step_new hf0 (by omega) hsome0] at hstep
          | rw [step_old hf0 (by omega) hsome hg, if_pos (by unfold better; omega)] at hstep
          | rw [step_old hf0 (by omega) hsome hg, if_neg (by unfold better; omega)] at hstep
         exact Fin.fam (k + 1) ⟨hk_k, by omega⟩ ⟨⟨_, rfl, int_succ k⟩, ⟨_, rfl, Pr.le_refl _⟩, ⟨_, rfl, Pr.le_refl _⟩, ⟨_, rfl, Pr.le_refl _⟩, ⟨_, rfl, Pr.le_refl _⟩, ⟨_, rfl, Pr.le_refl _⟩, ⟨_, rfl, Pr.le_refl _⟩, ⟨_, rfl, Pr.le_refl _⟩, trivial⟩ (fun _ _ h => by rw [hstep]; exact h)
        ·
         have q8 := Nrm.nrm h8
         refine Ch.yes rfl rfl rfl h8 rfl (by decide) (ok_fieldAddr rfl fo42_3 (vl rfl) rfl) ?_
         refine Ch.yes rfl rfl rfl h8 rfl (by decide) (ok_load1 rfl one3 (vl rfl)) ?_
         refine Ch.yes rfl rfl rfl h8 rfl (by decide) (ok_move rfl (vl rfl)) ?_
         refine Ch.yes rfl rfl rfl h8 rfl (by decide) (ok_move rfl (vl rfl)) ?_
         first
          | (refine Ch.yes rfl rfl rfl h8 rfl (by decide) (ok_sub rfl (vl rfl) (vl rfl) ?hin) ?_; case hin => unfold InI; omega)
          | refine Ch.yes rfl rfl rfl h8 rfl (by decide) (ok_int rfl (vl rfl) (vl rfl) rfl) ?_
         refine Ch.yes rfl rfl rfl h8 rfl (by decide) (ok_int rfl (vl rfl) (vl rfl) rfl) ?_
         refine Ch.op rfl rfl (by decide) (ok_pick_f rfl (vl rfl) h8 (vl rfl)) ?_
         refine Ch.nil ?_
         refine Fin.go ?_
         refine Tr.weak [(0, _), (2, _), (3, _), (5, _), (12, _), (14, _), (15, _), (51, _), (52, _), (53, _), (72, _)] ⟨⟨_, rfl, Pr.le_refl _⟩, ⟨_, rfl, Pr.le_refl _⟩, ⟨_, rfl, Pr.le_refl _⟩, ⟨_, rfl, Pr.le_refl _⟩, ⟨_, rfl, Pr.le_refl _⟩, ⟨_, rfl, Pr.le_refl _⟩, ⟨_, rfl, Pr.le_refl _⟩, ⟨_, rfl, Pr.le_refl _⟩, ⟨_, rfl, Pr.le_refl _⟩, ⟨_, rfl, Pr.le_refl _⟩, ⟨_, rfl, Pr.le_refl _⟩, trivial⟩ ?_
         refine Tr.cond rfl (fun h9 => ?_) (fun h9 => ?_)
         ·
          have q9 := Nrm.nrm h9
          refine Tr.exit ?_
          refine Fin.then_exit ?_
          refine Fin.block_here ?_
          refine Fin.go ?_
          refine Tr.reg0 ?_
          first
           | (refine Ch.op rfl rfl (by decide) (ok_add rfl (vl rfl) (vl rfl) ?hin) ?_; case hin => unfold InI; omega)
           | refine Ch.op rfl rfl (by decide) (ok_int rfl (vl rfl) (vl rfl) rfl) ?_
          refine Ch.op rfl rfl (by decide) (ok_move rfl (vl rfl)) ?_
          refine Ch.nil ?_
          first
           | rw [step_out hf0 (by omega)] at hstep
           | rw [step_new hf0 (by omega) hsome0] at hstep
           | rw [step_old hf0 (by omega) hsome hg, if_pos (by unfold better; omega)] at hstep
           | rw [step_old hf0 (by omega) hsome hg, if_neg (by unfold better; omega)] at hstep
          exact Fin.fam (k + 1) ⟨hk_k, by omega⟩ ⟨⟨_, rfl, int_succ k⟩, ⟨_, rfl, Pr.le_refl _⟩, ⟨_, rfl, Pr.le_refl _⟩, ⟨_, rfl, Pr.le_refl _⟩, ⟨_, rfl, Pr.le_refl _⟩, ⟨_, rfl, Pr.le_refl _⟩, ⟨_, rfl, Pr.le_refl _⟩, ⟨_, rfl, Pr.le_refl _⟩, trivial⟩ (fun _ _ h => by rw [hstep]; exact h)
         ·
          have q9 := Nrm.nrm h9
          refine Tr.skip ?_
          refine Fin.go ?_
          refine Tr.seq ?_
          refine Tr.regT ?_
          refine TO.op rfl rfl (by decide) (ok_move rfl (vl rfl)) ?_
          refine TO.op rfl rfl (by decide) (ok_loadA rfl agg42 sz42 (vl rfl) rfl rfl) ?_
          refine TO.op rfl rfl (by decide) (ok_call rfl (w_placeOf) ⟨⟨_, rfl, Pr.le_refl _⟩, trivial⟩) ?_
          refine TO.rd 0 rfl rfl rfl (by decide) (rd_lookup (plcOf f) mapT_place rfl (vl rfl) (vl rfl) (fun _ _ _ h => agg_is h)) ?_
          refine TO.op rfl rfl (by decide) (ok_move rfl (vl rfl)) ?_
          refine TO.op rfl rfl (by decide) (ok_extract rfl (vl rfl) rfl) ?_
          refine TO.op rfl rfl (by decide) (ok_extract rfl (vl rfl) rfl) ?_
          refine TO.op rfl rfl (by decide) (ok_assign rfl (vl rfl)) ?_
          refine TO.op rfl rfl (by decide) (ok_assign rfl (vl rfl)) ?_
          refine TO.nil ?_
          refine Fin.go ?_
          refine Tr.weak [(0, _), (2, _), (3, _), (5, _), (12, _), (14, _), (15, _), (16, _), (17, _), (51, _), (52, _), (53, _)] ⟨⟨_, rfl, Pr.le_refl _⟩, ⟨_, rfl, Pr.le_refl _⟩, ⟨_, rfl, Pr.le_refl _⟩, ⟨_, rfl, Pr.le_refl _⟩, ⟨_, rfl, Pr.le_refl _⟩, ⟨_, rfl, Pr.le_refl _⟩, ⟨_, rfl, Pr.le_refl _⟩, ⟨_, rfl, Pr.le_refl _⟩, ⟨_, rfl, Pr.le_refl _⟩, ⟨_, rfl, Pr.le_refl _⟩, ⟨_, rfl, Pr.le_refl _⟩, ⟨_, rfl, Pr.le_refl _⟩, trivial⟩ ?_
          refine Tr.seq ?_
          refine Tr.reg1 mixed (by kernel_rfl) ?_
          refine Ch.op rfl rfl (by decide) (ok_move rfl (vl rfl)) ?_
          refine Ch.op rfl rfl (by decide) (ok_not rfl (vl rfl)) ?_
          refine Ch.op rfl rfl (by decide) (ok_move rfl (vl rfl)) ?_
          refine Ch.cases 82 rfl (fun h10 => ?_) (fun h10 => ?_)
          ·
           have q10 := Nrm.nrm h10
           have hsome0 : (Cp.look (decM l (own.take k) t o) (plcOf f)).isSome = false := by simpa using h10
           refine Ch.no rfl rfl rfl (ne_false h10) rfl (by decide) ?_
           refine Ch.no rfl rfl rfl (ne_false h10) rfl (by decide) ?_
           refine Ch.no rfl rfl rfl (ne_false h10) rfl (by decide) ?_
           refine Ch.no rfl rfl rfl (ne_false h10) rfl (by decide) ?_
           refine Ch.no rfl rfl rfl (ne_false h10) rfl (by decide) ?_
           refine Ch.no rfl rfl rfl (ne_false h10) rfl (by decide) ?_
           refine Ch.no rfl rfl rfl (ne_false h10) rfl (by decide) ?_
           refine Ch.no rfl rfl rfl (ne_false h10) rfl (by decide) ?_
           refine Ch.op rfl rfl (by decide) (ok_pick_t rfl (vl rfl) h10 (vl rfl)) ?_
           refine Ch.op rfl rfl (by decide) (ok_move rfl (vl rfl)) ?_
           refine Ch.no rfl rfl rfl (by decide) rfl (by decide) ?_
           refine Ch.no rfl rfl rfl (by decide) rfl (by decide) ?_
           refine Ch.no rfl rfl rfl (by decide) rfl (by decide) ?_
           refine Ch.no rfl rfl rfl (by decide) rfl (by decide) ?_
           refine Ch.no rfl rfl rfl (by decide) rfl (by decide) ?_
           refine Ch.no rfl rfl rfl (by decide) rfl (by decide) ?_
           refine Ch.no rfl rfl rfl (by decide) rfl (by decide) ?_
           refine Ch.no rfl rfl rfl (by decide) rfl (by decide) ?_
           refine Ch.no rfl rfl rfl (by decide) rfl (by decide) ?_
           refine Ch.un rfl rfl rfl rfl (by decide) ?_
           refine Ch.un rfl rfl rfl rfl (by decide) ?_
           refine Ch.un rfl rfl rfl rfl (by decide) ?_
           refine Ch.un rfl rfl rfl rfl (by decide) ?_
           refine Ch.un rfl rfl rfl rfl (by decide) ?_
           refine Ch.un rfl rfl rfl rfl (by decide) ?_
           refine Ch.un rfl rfl rfl rfl (by decide) ?_
           refine Ch.un rfl rfl rfl rfl (by decide) ?_
           refine Ch.no rfl rfl rfl (by decide) rfl (by decide) ?_
           refine Ch.op rfl rfl (by decide) (ok_pick_t rfl (vl rfl) rfl (vl rfl)) ?_
           refine Ch.nil ?_
           refine Fin.go ?_
           refine Tr.weak [(0, _), (2, _), (3, _), (5, _), (12, _), (14, _), (15, _), (51, _), (52, _), (53, _), (111, _)] ⟨⟨_, rfl, Pr.le_refl _⟩, ⟨_, rfl, Pr.le_refl _⟩, ⟨_, rfl, Pr.le_refl _⟩, ⟨_, rfl, Pr.le_refl _⟩, ⟨_, rfl, Pr.le_refl _⟩, ⟨_, rfl, Pr.le_refl _⟩, ⟨_, rfl, Pr.le_refl _⟩, ⟨_, rfl, Pr.le_refl _⟩, ⟨_, rfl, Pr.le_refl _⟩, ⟨_, rfl, Pr.le_refl _⟩, ⟨_, rfl, Pr.le_refl _⟩, trivial⟩ ?_
           refine Tr.cond rfl (fun _ => ?_) (fun h => nomatch h)
           refine Tr.regT ?_
           refine TO.op rfl rfl (by decide) (ok_move rfl (vl rfl)) ?_
           refine TO.op rfl rfl (by decide) (ok_loadA rfl agg42 sz42 (vl rfl) rfl rfl) ?_
           refine TO.op rfl rfl (by decide) (ok_call rfl (w_placeOf) ⟨⟨_, rfl, Pr.le_refl _⟩, trivial⟩) ?_
           refine TO.op rfl rfl (by decide) (ok_move rfl (vl rfl)) ?_
           refine TO.ef0 0 rfl rfl (ef_mapupd (plcOf f) mapT_place rfl rfl rfl (vl rfl) (vl rfl) (fun _ _ _ h => agg_is h) (vl rfl)) ?_
           refine TO.nil ?_
           refine Fin.block ?_
           refine Fin.go ?_
           refine Tr.weak [(0, _), (2, _), (3, _), (5, _), (12, _), (51, _), (52, _), (53, _)] ⟨⟨_, rfl, Pr.le_refl _⟩, ⟨_, rfl, Pr.le_refl _⟩, ⟨_, rfl, Pr.le_refl _⟩, ⟨_, rfl, Pr.le_refl _⟩, ⟨_, rfl, Pr.le_refl _⟩, ⟨_, rfl, Pr.le_refl _⟩, ⟨_, rfl, Pr.le_refl _⟩, ⟨_, rfl, Pr.le_refl _⟩, trivial⟩ ?_
           refine Tr.reg0 ?_
           first
            | (refine Ch.op rfl rfl (by decide) (ok_add rfl (vl rfl) (vl rfl) ?hin) ?_; case hin => unfold InI; omega)
            | refine Ch.op rfl rfl (by decide) (ok_int rfl (vl rfl) (vl rfl) rfl) ?_
           refine Ch.op rfl rfl (by decide) (ok_move rfl (vl rfl)) ?_
           refine Ch.nil ?_
           first
            | rw [step_out hf0 (by omega)] at hstep
            | rw [step_new hf0 (by omega) hsome0] at hstep
            | rw [step_old hf0 (by omega) hsome hg, if_pos (by unfold better; omega)] at hstep
            | rw [step_old hf0 (by omega) hsome hg, if_neg (by unfold better; omega)] at hstep
           exact Fin.fam (k + 1) ⟨hk_k, by omega⟩ ⟨⟨_, rfl, int_succ k⟩, ⟨_, rfl, Pr.le_refl _⟩, ⟨_, rfl, Pr.le_refl _⟩, ⟨_, rfl, Pr.le_refl _⟩, ⟨_, rfl, Pr.le_refl _⟩, ⟨_, rfl, Pr.le_refl _⟩, ⟨_, rfl, Pr.le_refl _⟩, ⟨_, rfl, Pr.le_refl _⟩, trivial⟩ (fun _ _ h => by rw [hstep]; exact h)
          ·
           have q10 := Nrm.nrm h10
           have hsome : (Cp.look (decM l (own.take k) t o) (plcOf f)).isSome = true := by simpa using h10
           have hjj := look_in (dec_in' (t := t) (o := o) k hi) hsome
           obtain ⟨g, hg⟩ := at_ (l := l) (k := ((Cp.look (decM l (own.take k) t o) (plcOf f)).getD 0).toNat) (by omega)
           refine Ch.yes rfl rfl rfl h10 rfl (by decide) (ok_fieldAddr rfl fo42_3 (vl rfl) rfl) ?_
           refine Ch.yes rfl rfl rfl h10 rfl (by decide) (ok_load1 rfl one3 (vl rfl)) ?_
           refine Ch.yes rfl rfl rfl h10 rfl (by decide) (ok_move rfl (vl rfl)) ?_
           refine Ch.yes rfl rfl rfl h10 rfl (by decide) (ok_move rfl (vl rfl)) ?_
           refine Ch.yes rfl rfl rfl h10 rfl (by decide) (ok_indexAddr rfl Tryz.underlying27 sz42 (vl rfl) (vl rfl) (by omega) (row_atI hg)) ?_
           refine Ch.yes rfl rfl rfl h10 rfl (by decide) (ok_fieldAddr rfl fo42_3 (vl rfl) rfl) ?_
           refine Ch.yes rfl rfl rfl h10 rfl (by decide) (ok_load1 rfl one3 (vl rfl)) ?_
           refine Ch.yes rfl rfl rfl h10 rfl (by decide) (ok_int rfl (vl rfl) (vl rfl) rfl) ?_
           refine Ch.op rfl rfl (by decide) (ok_pick_f rfl (vl rfl) h10 (vl rfl)) ?_
           refine Ch.op rfl rfl (by decide) (ok_move rfl (vl rfl)) ?_
           refine Ch.cases 92 rfl (fun h11 => ?_) (fun h11 => ?_)
           ·
            have q11 := Nrm.nrm h11
            refine Ch.no rfl rfl rfl (ne_false h11) rfl (by decide) ?_
            refine Ch.no rfl rfl rfl (ne_false h11) rfl (by decide) ?_
            refine Ch.no rfl rfl rfl (ne_false h11) rfl (by decide) ?_
            refine Ch.no rfl rfl rfl (ne_false h11) rfl (by decide) ?_
            refine Ch.no rfl rfl rfl (ne_false h11) rfl (by decide) ?_
            refine Ch.no rfl rfl rfl (ne_false h11) rfl (by decide) ?_
            refine Ch.no rfl rfl rfl (ne_false h11) rfl (by decide) ?_
            refine Ch.no rfl rfl rfl (ne_false h11) rfl (by decide) ?_
            refine Ch.no rfl rfl rfl (ne_false h11) rfl (by decide) ?_
            refine Ch.un rfl rfl rfl rfl (by decide) ?_
            refine Ch.un rfl rfl rfl rfl (by decide) ?_
            refine Ch.un rfl rfl rfl rfl (by decide) ?_
            refine Ch.un rfl rfl rfl rfl (by decide) ?_
            refine Ch.un rfl rfl rfl rfl (by decide) ?_
            refine Ch.un rfl rfl rfl rfl (by decide) ?_
            refine Ch.un rfl rfl rfl rfl (by decide) ?_
            refine Ch.un rfl rfl rfl rfl (by decide) ?_
            refine Ch.no rfl rfl rfl (ne_false h11) rfl (by decide) ?_
            refine Ch.op rfl rfl (by decide) (ok_pick_t rfl (vl rfl) h11 (vl rfl)) ?_
            refine Ch.nil ?_
            refine Fin.go ?_
            refine Tr.weak [(0, _), (2, _), (3, _), (5, _), (12, _), (14, _), (15, _), (51, _), (52, _), (53, _), (111, _)] ⟨⟨_, rfl, Pr.le_refl _⟩, ⟨_, rfl, Pr.le_refl _⟩, ⟨_, rfl, Pr.le_refl _⟩, ⟨_, rfl, Pr.le_refl _⟩, ⟨_, rfl, Pr.le_refl _⟩, ⟨_, rfl, Pr.le_refl _⟩, ⟨_, rfl, Pr.le_refl _⟩, ⟨_, rfl, Pr.le_refl _⟩, ⟨_, rfl, Pr.le_refl _⟩, ⟨_, rfl, Pr.le_refl _⟩, ⟨_, rfl, Pr.le_refl _⟩, trivial⟩ ?_
            refine Tr.cond rfl (fun _ => ?_) (fun h => nomatch h)
            refine Tr.regT ?_
            refine TO.op rfl rfl (by decide) (ok_move rfl (vl rfl)) ?_
            refine TO.op rfl rfl (by decide) (ok_loadA rfl agg42 sz42 (vl rfl) rfl rfl) ?_
            refine TO.op rfl rfl (by decide) (ok_call rfl (w_placeOf) ⟨⟨_, rfl, Pr.le_refl _⟩, trivial⟩) ?_
            refine TO.op rfl rfl (by decide) (ok_move rfl (vl rfl)) ?_
            refine TO.ef0 0 rfl rfl (ef_mapupd (plcOf f) mapT_place rfl rfl rfl (vl rfl) (vl rfl) (fun _ _ _ h => agg_is h) (vl rfl)) ?_
            refine TO.nil ?_
            refine Fin.block ?_
            refine Fin.go ?_
            refine Tr.weak [(0, _), (2, _), (3, _), (5, _), (12, _), (51, _), (52, _), (53, _)] ⟨⟨_, rfl, Pr.le_refl _⟩, ⟨_, rfl, Pr.le_refl _⟩, ⟨_, rfl, Pr.le_refl _⟩, ⟨_, rfl, Pr.le_refl _⟩, ⟨_, rfl, Pr.le_refl _⟩, ⟨_, rfl, Pr.le_refl _⟩, ⟨_, rfl, Pr.le_refl _⟩, ⟨_, rfl, Pr.le_refl _⟩, trivial⟩ ?_
            refine Tr.reg0 ?_
            first
             | (refine Ch.op rfl rfl (by decide) (ok_add rfl (vl rfl) (vl rfl) ?hin) ?_; case hin => unfold InI; omega)
             | refine Ch.op rfl rfl (by decide) (ok_int rfl (vl rfl) (vl rfl) rfl) ?_
            refine Ch.op rfl rfl (by decide) (ok_move rfl (vl rfl)) ?_
            refine Ch.nil ?_
            first
             | rw [step_out hf0 (by omega)] at hstep
             | rw [step_new hf0 (by omega) hsome0] at hstep
             | rw [step_old hf0 (by omega) hsome hg, if_pos (by unfold better; omega)] at hstep
             | rw [step_old hf0 (by omega) hsome hg, if_neg (by unfold better; omega)] at hstep
            exact Fin.fam (k + 1) ⟨hk_k, by omega⟩ ⟨⟨_, rfl, int_succ k⟩, ⟨_, rfl, Pr.le_refl _⟩, ⟨_, rfl, Pr.le_refl _⟩, ⟨_, rfl, Pr.le_refl _⟩, ⟨_, rfl, Pr.le_refl _⟩, ⟨_, rfl, Pr.le_refl _⟩, ⟨_, rfl, Pr.le_refl _⟩, ⟨_, rfl, Pr.le_refl _⟩, trivial⟩ (fun _ _ h => by rw [hstep]; exact h)
           ·
            have q11 := Nrm.nrm h11
            refine Ch.yes rfl rfl rfl h11 rfl (by decide) (ok_fieldAddr rfl fo42_3 (vl rfl) rfl) ?_
            refine Ch.yes rfl rfl rfl h11 rfl (by decide) (ok_load1 rfl one3 (vl rfl)) ?_
            refine Ch.yes rfl rfl rfl h11 rfl (by decide) (ok_move rfl (vl rfl)) ?_
            refine Ch.yes rfl rfl rfl h11 rfl (by decide) (ok_move rfl (vl rfl)) ?_
            refine Ch.yes rfl rfl rfl h11 rfl (by decide) (ok_indexAddr rfl Tryz.underlying27 sz42 (vl rfl) (vl rfl) (by omega) (row_atI hg)) ?_
            refine Ch.yes rfl rfl rfl h11 rfl (by decide) (ok_fieldAddr rfl fo42_3 (vl rfl) rfl) ?_
            refine Ch.yes rfl rfl rfl h11 rfl (by decide) (ok_load1 rfl one3 (vl rfl)) ?_
            refine Ch.yes rfl rfl rfl h11 rfl (by decide) (ok_int rfl (vl rfl) (vl rfl) rfl) ?_
            refine Ch.yes rfl rfl rfl h11 rfl (by decide) (ok_move rfl (vl rfl)) ?_
            refine Ch.cases 101 rfl (fun h12 => ?_) (fun h12 => ?_)
            ·
             have q12 := Nrm.nrm h12
             refine Ch.yes rfl rfl rfl h12 rfl (by decide) (ok_fieldAddr rfl fo42_4 (vl rfl) rfl) ?_
             refine Ch.yes rfl rfl rfl h12 rfl (by decide) (ok_load1 rfl one3 (vl rfl)) ?_
             refine Ch.yes rfl rfl rfl h12 rfl (by decide) (ok_move rfl (vl rfl)) ?_
             refine Ch.yes rfl rfl rfl h12 rfl (by decide) (ok_move rfl (vl rfl)) ?_
             refine Ch.yes rfl rfl rfl h12 rfl (by decide) (ok_indexAddr rfl Tryz.underlying27 sz42 (vl rfl) (vl rfl) (by omega) (row_atI hg)) ?_
             refine Ch.yes rfl rfl rfl h12 rfl (by decide) (ok_fieldAddr rfl fo42_4 (vl rfl) rfl) ?_
             refine Ch.yes rfl rfl rfl h12 rfl (by decide) (ok_load1 rfl one3 (vl rfl)) ?_
             refine Ch.yes rfl rfl rfl h12 rfl (by decide) (ok_int rfl (vl rfl) (vl rfl) rfl) ?_
             refine Ch.yes rfl rfl rfl h11 rfl (by decide) (ok_pick_t rfl (vl rfl) h12 (vl rfl)) ?_
             refine Ch.op rfl rfl (by decide) (ok_pick_f rfl (vl rfl) h11 (vl rfl)) ?_
             refine Ch.nil ?_
             refine Fin.go ?_
             refine Tr.weak [(0, _), (2, _), (3, _), (5, _), (12, _), (14, _), (15, _), (51, _), (52, _), (53, _), (111, _)] ⟨⟨_, rfl, Pr.le_refl _⟩, ⟨_, rfl, Pr.le_refl _⟩, ⟨_, rfl, Pr.le_refl _⟩, ⟨_, rfl, Pr.le_refl _⟩, ⟨_, rfl, Pr.le_refl _⟩, ⟨_, rfl, Pr.le_refl _⟩, ⟨_, rfl, Pr.le_refl _⟩, ⟨_, rfl, Pr.le_refl _⟩, ⟨_, rfl, Pr.le_refl _⟩, ⟨_, rfl, Pr.le_refl _⟩, ⟨_, rfl, Pr.le_refl _⟩, trivial⟩ ?_
             refine Tr.cond rfl (fun h13 => ?_) (fun h13 => ?_)
             ·
              have q13 := Nrm.nrm h13
              refine Tr.regT ?_
              refine TO.op rfl rfl (by decide) (ok_move rfl (vl rfl)) ?_
              refine TO.op rfl rfl (by decide) (ok_loadA rfl agg42 sz42 (vl rfl) rfl rfl) ?_
              refine TO.op rfl rfl (by decide) (ok_call rfl (w_placeOf) ⟨⟨_, rfl, Pr.le_refl _⟩, trivial⟩) ?_
              refine TO.op rfl rfl (by decide) (ok_move rfl (vl rfl)) ?_
              refine TO.ef0 0 rfl rfl (ef_mapupd (plcOf f) mapT_place rfl rfl rfl (vl rfl) (vl rfl) (fun _ _ _ h => agg_is h) (vl rfl)) ?_
              refine TO.nil ?_
              refine Fin.block ?_
              refine Fin.go ?_
              refine Tr.weak [(0, _), (2, _), (3, _), (5, _), (12, _), (51, _), (52, _), (53, _)] ⟨⟨_, rfl, Pr.le_refl _⟩, ⟨_, rfl, Pr.le_refl _⟩, ⟨_, rfl, Pr.le_refl _⟩, ⟨_, rfl, Pr.le_refl _⟩, ⟨_, rfl, Pr.le_refl _⟩, ⟨_, rfl, Pr.le_refl _⟩, ⟨_, rfl, Pr.le_refl _⟩, ⟨_, rfl, Pr.le_refl _⟩, trivial⟩ ?_
              refine Tr.reg0 ?_
              first
               | (refine Ch.op rfl rfl (by decide) (ok_add rfl (vl rfl) (vl rfl) ?hin) ?_; case hin => unfold InI; omega)
               | refine Ch.op rfl rfl (by decide) (ok_int rfl (vl rfl) (vl rfl) rfl) ?_
              refine Ch.op rfl rfl (by decide) (ok_move rfl (vl rfl)) ?_
              refine Ch.nil ?_
              first
               | rw [step_out hf0 (by omega)] at hstep
               | rw [step_new hf0 (by omega) hsome0] at hstep
               | rw [step_old hf0 (by omega) hsome hg, if_pos (by unfold better; omega)] at hstep
               | rw [step_old hf0 (by omega) hsome hg, if_neg (by unfold better; omega)] at hstep
              exact Fin.fam (k + 1) ⟨hk_k, by omega⟩ ⟨⟨_, rfl, int_succ k⟩, ⟨_, rfl, Pr.le_refl _⟩, ⟨_, rfl, Pr.le_refl _⟩, ⟨_, rfl, Pr.le_refl _⟩, ⟨_, rfl, Pr.le_refl _⟩, ⟨_, rfl, Pr.le_refl _⟩, ⟨_, rfl, Pr.le_refl _⟩, ⟨_, rfl, Pr.le_refl _⟩, trivial⟩ (fun _ _ h => by rw [hstep]; exact h)
             ·
              have q13 := Nrm.nrm h13
              refine Tr.skip ?_
              refine Fin.block ?_
              refine Fin.go ?_
              refine Tr.reg0 ?_
              first
               | (refine Ch.op rfl rfl (by decide) (ok_add rfl (vl rfl) (vl rfl) ?hin) ?_; case hin => unfold InI; omega)
               | refine Ch.op rfl rfl (by decide) (ok_int rfl (vl rfl) (vl rfl) rfl) ?_
              refine Ch.op rfl rfl (by decide) (ok_move rfl (vl rfl)) ?_
              refine Ch.nil ?_
              first
               | rw [step_out hf0 (by omega)] at hstep
               | rw [step_new hf0 (by omega) hsome0] at hstep
               | rw [step_old hf0 (by omega) hsome hg, if_pos (by unfold better; omega)] at hstep
               | rw [step_old hf0 (by omega) hsome hg, if_neg (by unfold better; omega)] at hstep
              exact Fin.fam (k + 1) ⟨hk_k, by omega⟩ ⟨⟨_, rfl, int_succ k⟩, ⟨_, rfl, Pr.le_refl _⟩, ⟨_, rfl, Pr.le_refl _⟩, ⟨_, rfl, Pr.le_refl _⟩, ⟨_, rfl, Pr.le_refl _⟩, ⟨_, rfl, Pr.le_refl _⟩, ⟨_, rfl, Pr.le_refl _⟩, ⟨_, rfl, Pr.le_refl _⟩, trivial⟩ (fun _ _ h => by rw [hstep]; exact h)
            ·
             have q12 := Nrm.nrm h12
             refine Ch.no rfl rfl rfl (ne_true h12) rfl (by decide) ?_
             refine Ch.no rfl rfl rfl (ne_true h12) rfl (by decide) ?_
             refine Ch.no rfl rfl rfl (ne_true h12) rfl (by decide) ?_
             refine Ch.no rfl rfl rfl (ne_true h12) rfl (by decide) ?_
             refine Ch.no rfl rfl rfl (ne_true h12) rfl (by decide) ?_
             refine Ch.no rfl rfl rfl (ne_true h12) rfl (by decide) ?_
             refine Ch.no rfl rfl rfl (ne_true h12) rfl (by decide) ?_
             refine Ch.no rfl rfl rfl (ne_true h12) rfl (by decide) ?_
             refine Ch.yes rfl rfl rfl h11 rfl (by decide) (ok_pick_f rfl (vl rfl) h12 (vl rfl)) ?_
             refine Ch.op rfl rfl (by decide) (ok_pick_f rfl (vl rfl) h11 (vl rfl)) ?_
             refine Ch.nil ?_
             refine Fin.go ?_
             refine Tr.weak [(0, _), (2, _), (3, _), (5, _), (12, _), (14, _), (15, _), (51, _), (52, _), (53, _), (111, _)] ⟨⟨_, rfl, Pr.le_refl _⟩, ⟨_, rfl, Pr.le_refl _⟩, ⟨_, rfl, Pr.le_refl _⟩, ⟨_, rfl, Pr.le_refl _⟩, ⟨_, rfl, Pr.le_refl _⟩, ⟨_, rfl, Pr.le_refl _⟩, ⟨_, rfl, Pr.le_refl _⟩, ⟨_, rfl, Pr.le_refl _⟩, ⟨_, rfl, Pr.le_refl _⟩, ⟨_, rfl, Pr.le_refl _⟩, ⟨_, rfl, Pr.le_refl _⟩, trivial⟩ ?_
             refine Tr.cond rfl (fun h => nomatch h) (fun _ => ?_)
             refine Tr.skip ?_
             refine Fin.block ?_
             refine Fin.go ?_
             refine Tr.reg0 ?_
             first
              | (refine Ch.op rfl rfl (by decide) (ok_add rfl (vl rfl) (vl rfl) ?hin) ?_; case hin => unfold InI; omega)
              | refine Ch.op rfl rfl (by decide) (ok_int rfl (vl rfl) (vl rfl) rfl) ?_
             refine Ch.op rfl rfl (by decide) (ok_move rfl (vl rfl)) ?_
             refine Ch.nil ?_
             first
              | rw [step_out hf0 (by omega)] at hstep
              | rw [step_new hf0 (by omega) hsome0] at hstep
              | rw [step_old hf0 (by omega) hsome hg, if_pos (by unfold better; omega)] at hstep
              | rw [step_old hf0 (by omega) hsome hg, if_neg (by unfold better; omega)] at hstep
             exact Fin.fam (k + 1) ⟨hk_k, by omega⟩ ⟨⟨_, rfl, int_succ k⟩, ⟨_, rfl, Pr.le_refl _⟩, ⟨_, rfl, Pr.le_refl _⟩, ⟨_, rfl, Pr.le_refl _⟩, ⟨_, rfl, Pr.le_refl _⟩, ⟨_, rfl, Pr.le_refl _⟩, ⟨_, rfl, Pr.le_refl _⟩, ⟨_, rfl, Pr.le_refl _⟩, trivial⟩ (fun _ _ h => by rw [hstep]; exact h)
       ·
        have q7 := Nrm.nrm h7
        have he_k : k = (own).length := by have := ge_of_dec h7; omega
        subst he_k
        rw [List.take_length]
        refine Tr.exit ?_
        refine Fin.then_exit ?_
        refine Fin.then_exit ?_
        refine Fin.block_here ?_
        refine Fin.go ?_
        refine Tr.seq ?_
        refine Tr.reg0 ?_
        refine Ch.op rfl rfl (by decide) (ok_assign rfl (vl rfl)) ?_
        refine Ch.nil ?_
        refine Fin.go ?_
        refine Tr.seq ?_
        refine Tr.seq ?_
        refine Tr.regT ?_
        refine TO.op rfl rfl (by decide) (ok_move rfl (vl rfl)) ?_
        refine TO.range mapT_place rfl rfl (by decide) rfl (vl rfl) (show _ = some (mapR encPl _ _) from rfl : _[0]? = _) (fun b3 => ?_)
        refine TO.nil ?_
        refine Fin.go ?_
        refine Tr.block ?_
        refine Tr.addnil 40 8 ?_
        refine Tr.loopD1V1 [(0, _), (5, _), (118, _)] ⟨⟨_, rfl, Pr.le_refl _⟩, ⟨_, rfl, Pr.le_refl _⟩, ⟨_, rfl, Pr.le_refl _⟩, trivial⟩ (fun (seen : List Nat) v => [(18, andIs v (fcts (outF l n (decM l own t o) seen)))]) (fun (seen : List Nat) v => Hp M0 w0 noS ([appRes 40 8 v, iterR b3 b1 (decM l own t o).length seen, mapR encPl b1 (decM l own t o)])) (fun (seen : List Nat) => seen.Nodup ∧ ∀ q ∈ seen, q < (decM l own t o).length) (fun (seen : List Nat) => (decM l own t o).length - seen.length) ([]) (.slice none 0 0) (⟨List.nodup_nil, fun q hq => by cases hq⟩) ⟨⟨_, rfl, own_nil rfl⟩, trivial⟩ (fun _ _ h => h) ?_
        rintro seen v ⟨hnd, hlt⟩
        refine Tr.seq ?_
        refine Tr.regT ?_
        refine TO.next (i := 1) (j := 2) rfl rfl (by decide) rfl (vl rfl) rfl rfl (fun hall1 => ?_) (fun q1 p1 hq1 hn1 => ?_)
        ·
         refine TO.op rfl rfl (by decide) (ok_extract rfl (vl rfl) rfl) ?_
         refine TO.nil ?_
         refine Fin.go ?_
         refine Tr.seq ?_
         refine Tr.cond rfl (fun h => nomatch h) (fun _ => ?_)
         refine Tr.exit ?_
         refine Fin.then_exit ?_
         refine Fin.then_exit ?_
         refine Fin.block_here ?_
         refine Fin.go ?_
         refine Tr.seq ?_
         refine Tr.reg0 ?_
         refine Ch.op rfl rfl (by decide) (ok_move rfl (vl rfl)) ?_
         refine Ch.op rfl rfl (by decide) (ok_call rfl (w_Sort1F (by rw [List.length_map]; exact Nat.le_trans (outF_len ..) (Nat.le_trans (nodup_len hnd hlt) h1m))) ⟨⟨_, rfl, andIs_le _ _⟩, ⟨_, rfl, le_any _⟩, trivial⟩) ?_
         refine Ch.nil ?_
         refine Fin.go ?_
         refine Tr.seq ?_
         refine Tr.reg0 ?_
         refine Ch.op rfl rfl (by decide) (ok_move rfl (vl rfl)) ?_
         refine Ch.op rfl rfl (by decide) (ok_assign rfl (vl rfl)) ?_
         refine Ch.op rfl rfl (by decide) (ok_assign rfl (vl rfl)) ?_
         refine Ch.nil ?_
         refine Fin.go ?_
         refine Tr.ret ?_
         refine Fin.ret2 rfl (OutW.bse _ _) rfl ?_ rfl ?_
         · refine Pr.le_trans (andIs_le _ _) (Pr.le_of_eq (by rw [outF_all h1m hnd hlt hall1]))
         · first | exact Pr.le_refl _ | (refine int_eq ?_; simp_all; done) | (refine bool_eq ?_; simp_all; done) | (refine bool_eq ?_; simp_all; omega) | (refine int_eq ?_; omega)
        ·
         refine TO.op rfl rfl (by decide) (ok_extract rfl (vl rfl) rfl) ?_
         refine TO.nil ?_
         refine Fin.go ?_
         refine Tr.seq ?_
         refine Tr.cond rfl (fun _ => ?_) (fun h => nomatch h)
         refine Tr.skip ?_
         refine Fin.go ?_
         refine Tr.block ?_
         refine Tr.seq ?_
         have hin := (dec_in (l := l) (t := t) (o := o) own [] (by intro p hp; simp at hp) hi) p1 (List.mem_of_getElem? hq1)
         obtain ⟨g, hg⟩ := at_ (l := l) (k := p1.2.toNat) (by omega)
         have hof := outF_snoc l n (decM l own t o) seen q1
         rw [hq1] at hof
         have hol := Nat.le_trans (outF_len l n (decM l own t o) seen) (nodup_len hnd hlt)
         refine Tr.regT ?_
         refine TO.entry (i := 1) (j := 2) rfl rfl (by decide) rfl (vl rfl) rfl rfl hq1 ?_
         refine TO.op rfl rfl (by decide) (ok_extract rfl (vl rfl) rfl) ?_
         refine TO.op rfl rfl (by decide) (ok_assign rfl (vl rfl)) ?_
         refine TO.nil ?_
         refine Fin.go ?_
         refine Tr.seq ?_
         refine Tr.regT ?_
         refine TO.op rfl rfl (by decide) (ok_move rfl (vl rfl)) ?_
         refine TO.op rfl rfl (by decide) (ok_move rfl (vl rfl)) ?_
         refine TO.op rfl rfl (by decide) (ok_indexAddr rfl Tryz.underlying27 sz42 (vl rfl) (vl rfl) (by omega) (row_atI hg)) ?_
         refine TO.op rfl rfl (by decide) (ok_loadA rfl agg42 sz42 (vl rfl) rfl rfl) ?_
         refine TO.alloc rfl rfl (by decide) rfl z42 zo42 (fun b4 => ?_)
         refine TO.store_all 0 rfl rfl rfl (vl rfl) (VL.le (vl rfl) (agg_cellsP _)) rfl sz42 rfl rfl ?_
         refine TO.freeze 0 21 rfl rfl ?_
         refine TO.nil ?_
         refine Fin.go ?_
         refine Tr.weak [(0, _), (5, _), (18, _), (20, _), (21, _), (118, _)] ⟨⟨_, rfl, Pr.le_refl _⟩, ⟨_, rfl, Pr.le_refl _⟩, ⟨_, rfl, Pr.le_refl _⟩, ⟨_, rfl, Pr.le_refl _⟩, ⟨_, rfl, Pr.le_refl _⟩, ⟨_, rfl, Pr.le_refl _⟩, trivial⟩ ?_
         refine Tr.seq ?_
         refine Tr.reg0 ?_
         refine Ch.op rfl rfl (by decide) (ok_fieldAddr rfl fo42_5 (vl rfl) rfl) ?_
         refine Ch.op rfl rfl (by decide) (ok_load1 rfl one3 (vl rfl)) ?_
         refine Ch.op rfl rfl (by decide) (ok_int rfl (vl rfl) (vl rfl) rfl) ?_
         refine Ch.nil ?_
         refine Fin.go ?_
         refine Tr.cond rfl (fun h14 => ?_) (fun h14 => ?_)
         ·
          have q14 := Nrm.nrm h14
          refine Tr.regT ?_
          refine TO.op rfl rfl (by decide) (ok_move rfl (vl rfl)) ?_
          refine TO.op rfl rfl (by decide) (ok_fieldAddr rfl fo35_0 (vl rfl) rfl) ?_
          refine TO.op rfl rfl (by decide) (ok_load1 rfl one3 (vl rfl)) ?_
          refine TO.op rfl rfl (by decide) (ok_fieldAddr rfl fo42_6 (vl rfl) rfl) ?_
          refine TO.op rfl rfl (by decide) (ok_load1 rfl one9 (vl rfl)) ?_
          refine TO.op rfl rfl (by decide) (ok_fieldAddr rfl fo42_5 (vl rfl) rfl) ?_
          refine TO.op rfl rfl (by decide) (ok_load1 rfl one3 (vl rfl)) ?_
          refine TO.op rfl rfl (by decide) (ok_fieldAddr rfl fo42_7 (vl rfl) rfl) ?_
          refine TO.op rfl rfl (by decide) (ok_loadA rfl agg38 sz38 (vl rfl) rfl rfl) ?_
          refine TO.op rfl rfl (by decide) (ok_fieldAddr rfl fo42_8 (vl rfl) rfl) ?_
          refine TO.op rfl rfl (by decide) (ok_load1 rfl one3 (vl rfl)) ?_
          refine TO.op rfl rfl (by decide) (ok_fieldAddr rfl fo42_9 (vl rfl) rfl) ?_
          refine TO.op rfl rfl (by decide) (ok_load1 rfl one9 (vl rfl)) ?_
          refine TO.op rfl rfl (by decide) (ok_move rfl (vl rfl)) ?_
          refine TO.op rfl rfl (by decide) (ok_build (rows := [(0, [_]), (1, [_]), (2, [_]), (3, _), (4, [_]), (5, [_]), (6, [_])]) rfl bl40 zo40 ⟨⟨rfl, (VL.le (vl rfl) (one_cellsP _))⟩, ⟨⟨rfl, (VL.le (vl rfl) (one_cellsP _))⟩, ⟨⟨rfl, (VL.le (vl rfl) (one_cellsP _))⟩, ⟨⟨rfl, (VL.le (vl rfl) (agg_cellsP _))⟩, ⟨⟨rfl, (VL.le (vl rfl) (one_cellsP _))⟩, ⟨⟨rfl, (VL.le (vl rfl) (one_cellsP _))⟩, ⟨⟨rfl, (VL.le (vl rfl) (one_cellsP _))⟩, trivial⟩⟩⟩⟩⟩⟩⟩ rfl) ?_
          refine TO.op rfl rfl (by decide) (ok_buildSlice (xs := [.tmp 144]) (rows := [_]) rfl rfl Tryz.underlying29 sz40 z40 rfl (by decide) ⟨⟨(by exact rfl), (VL.le (vl rfl) (agg_cellsP _))⟩, trivial⟩ (by decide)) ?_
          refine TO.efs 0 rfl rfl (by decide) (ef_append rfl rfl (by decide) rfl Tryz.underlying29 sz40 by40 z40 rfl (by decide) ⟨_, rfl, andIs_le _ _⟩ ⟨_, rfl, full_le _ _⟩ (by simp only [List.length_map, List.length_append, List.length_cons, List.length_nil]; unfold maxLen; omega) (by simp only [List.length_map, List.length_append, List.length_cons, List.length_nil]; omega) (appR_is (by exact List.Mem.head _) ⟨_, rfl, andIs_is _ _⟩)) (fun v1 => ?_)
          refine TO.op rfl rfl (by decide) (ok_assign rfl (vl rfl)) ?_
          refine TO.nil ?_
          refine Fin.block ?_
          first
           | rw [show ((some p1).bind fun p => factOf l n p.2) = _ from fact_no hg (by omega)] at hof
           | rw [show ((some p1).bind fun p => factOf l n p.2) = _ from fact_yes hg (by omega)] at hof
          exact Fin.famD1V1 (seen ++ [q1]) v1 (seen_next hnd hlt hn1 (lt_of_at hq1)) ⟨⟨_, rfl, own_le (by rw [hof, List.map_append]; first | rfl | exact (List.append_nil _).symm)⟩, ⟨_, rfl, Pr.le_refl _⟩, ⟨_, rfl, Pr.le_refl _⟩, ⟨_, rfl, Pr.le_refl _⟩, trivial⟩ (fun _ _ h => h)
         ·
          have q14 := Nrm.nrm h14
          refine Tr.skip ?_
          refine Fin.block ?_
          first
           | rw [show ((some p1).bind fun p => factOf l n p.2) = _ from fact_no hg (by omega)] at hof
           | rw [show ((some p1).bind fun p => factOf l n p.2) = _ from fact_yes hg (by omega)] at hof
          exact Fin.famD1V1 (seen ++ [q1]) v (seen_next hnd hlt hn1 (lt_of_at hq1)) ⟨⟨_, rfl, own_le (by rw [hof, List.map_append]; first | rfl | exact (List.append_nil _).symm)⟩, ⟨_, rfl, Pr.le_refl _⟩, ⟨_, rfl, Pr.le_refl _⟩, ⟨_, rfl, Pr.le_refl _⟩, trivial⟩ (fun _ _ h => h)
end Go.Proofs.YthmnoekgicggnaaGreat
namespace Go.Proofs.YthmnoekgicggnaaGreat
open Go Go.RowKit Cp

abbrev rowU (u : Int × Int) : List Pr := [int u.1, int u.2]
abbrev usesP (l : List (Int × Int)) : Pr := slice 2 (l.map rowU)
def useOf (s : List UInt8) (f : Fct) : Option (Int × Int) := if f.subj = s ∧ f.kind = 1 then some (f.alg, f.bits) else none
def usesF (l : List Fct) (s : List UInt8) : List (Int × Int) := l.filterMap (useOf s)
theorem fm_take {α β : Type} (f : α → Option β) {l : List α} {k : Nat} {x : α} (h : l[k]? = some x) : (l.take (k + 1)).filterMap f = (l.take k).filterMap f ++ (f x).toList := by
  rw [List.take_add_one, h, List.filterMap_append]; show _ ++ [x].filterMap f = _; rw [fm_one]
theorem use_yes {s : List UInt8} {f : Fct} (h : f.subj = s) (h2 : f.kind = 1) : useOf s f = some (f.alg, f.bits) := if_pos ⟨h, h2⟩
theorem use_no {s : List UInt8} {f : Fct} (h : ¬ f.subj = s ∨ ¬ f.kind = 1) : useOf s f = none := if_neg (by rintro ⟨a, b⟩; rcases h with h | h; exact h a; exact h b)
theorem uses_len (l : List Fct) (s : List UInt8) (k : Nat) : (usesF (l.take k) s).length ≤ l.length := Nat.le_trans (List.length_filterMap_le _ _) (by simp; omega)
def alikeF (x y : Fct) : Bool := decide (x.ent = y.ent ∧ x.subj = y.subj ∧ x.kind = y.kind ∧ x.alg = y.alg ∧ x.bits = y.bits ∧ x.num = y.num ∧ x.text = y.text)
/-- The facts of l that are not in o. -/
def without (o : List Fct) (l : List Fct) : List Fct := l.filter fun x => !(o.any (alikeF x))
set_option maxRecDepth 20000 in
theorem w_Uses {l : List Fct} {s : List UInt8} (hl : l.length ≤ 100000) : Fun Tryz.prog 20 [fcts l, str s] (usesP (usesF l s)) := by
 refine Fun.of Tryz.func20 rfl rfl (by exact Nat.le_of_ble_eq_true rfl) fun M0 w0 => ?_
 refine Tr.seq ?_
 refine Tr.reg0 ?_
 refine Ch.op rfl rfl (by decide) (ok_assign rfl (vl rfl)) ?_
 refine Ch.nil ?_
 refine Fin.go ?_
 refine Tr.seq ?_
 refine Tr.reg0 ?_
 refine Ch.op rfl rfl (by decide) (ok_assign rfl (vl rfl)) ?_
 refine Ch.nil ?_
 refine Fin.go ?_
 refine Tr.seq ?_
 refine Tr.seq ?_
 refine Tr.reg0 ?_
 refine Ch.op rfl rfl (by decide) (ok_move rfl (vl rfl)) ?_
 first
  | refine Ch.op rfl rfl (by decide) (ok_lenm rfl Tryz.underlying29 (vl rfl)) ?_
  | refine Ch.op rfl rfl (by decide) (ok_len rfl Tryz.underlying29 (vl rfl)) ?_
 refine Ch.op rfl rfl (by decide) (ok_move rfl (vl rfl)) ?_
 refine Ch.nil ?_
 refine Fin.go ?_
 refine Tr.block ?_
 refine Tr.addnil 38 2 ?_
 refine Tr.loopV1 [(1, _), (8, _), (9, _)] ⟨⟨_, rfl, Pr.le_refl _⟩, ⟨_, rfl, Pr.le_refl _⟩, ⟨_, rfl, Pr.le_refl _⟩, trivial⟩ (fun k v => [(10, int ((k : Nat) : Int)), (5, andIs v (usesP (usesF (l.take k) s)))]) (fun k v => Hp M0 w0 noS ([appRes 38 2 v])) (fun k : Nat => k ≤ (l).length) (fun k : Nat => (l).length - k) 0 (.slice none 0 0) (Nat.zero_le _) ⟨⟨_, rfl, Pr.le_refl _⟩, ⟨_, rfl, own_nil rfl⟩, trivial⟩ (fun _ _ h => h) ?_
 rintro k v hle_k
 refine Tr.seq ?_
 refine Tr.reg0 ?_
 refine Ch.op rfl rfl (by decide) (ok_int rfl (vl rfl) (vl rfl) rfl) ?_
 refine Ch.nil ?_
 refine Fin.go ?_
 refine Tr.seq ?_
 refine Tr.cond rfl (fun h1 => ?_) (fun h1 => ?_)
 ·
  have q1 := Nrm.nrm h1
  have hk_k : k < (l).length := lt_of_dec h1
  obtain ⟨x, hx_k⟩ := at_ hk_k
  have hul := uses_len l s k
  refine Tr.skip ?_
  refine Fin.go ?_
  refine Tr.seq ?_
  refine Tr.block ?_
  refine Tr.seq ?_
  refine Tr.regT ?_
  refine TO.op rfl rfl (by decide) (ok_indexAddr rfl Tryz.underlying29 sz40 (vl rfl) (vl rfl) (by omega) (by first | exact row_at (by assumption) | exact row_atI (by assumption) | assumption)) ?_
  refine TO.op rfl rfl (by decide) (ok_loadA rfl agg40 sz40 (vl rfl) rfl rfl) ?_
  refine TO.alloc rfl rfl (by decide) rfl z40 zo40 (fun b1 => ?_)
  refine TO.store_all 0 rfl rfl rfl (vl rfl) (VL.le (vl rfl) (agg_cellsP _)) rfl sz40 rfl rfl ?_
  refine TO.freeze 0 7 rfl rfl ?_
  refine TO.nil ?_
  refine Fin.go ?_
  refine Tr.seq ?_
  refine Tr.reg0 ?_
  refine Ch.op rfl rfl (by decide) (ok_fieldAddr rfl fo40_1 (vl rfl) rfl) ?_
  refine Ch.op rfl rfl (by decide) (ok_load1 rfl one9 (vl rfl)) ?_
  refine Ch.op rfl rfl (by decide) (ok_move rfl (vl rfl)) ?_
  refine Ch.op rfl rfl (by decide) (ok_eqs rfl (vl rfl) (vl rfl)) ?_
  refine Ch.op rfl rfl (by decide) (ok_move rfl (vl rfl)) ?_
  refine Ch.cases 18 rfl (fun h2 => ?_) (fun h2 => ?_)
  ·
   have q2 := Nrm.nrm h2
   refine Ch.yes rfl rfl rfl h2 rfl (by decide) (ok_fieldAddr rfl fo40_2 (vl rfl) rfl) ?_
   refine Ch.yes rfl rfl rfl h2 rfl (by decide) (ok_load1 rfl one3 (vl rfl)) ?_
   refine Ch.yes rfl rfl rfl h2 rfl (by decide) (ok_int rfl (vl rfl) (vl rfl) rfl) ?_
   refine Ch.op rfl rfl (by decide) (ok_pick_t rfl (vl rfl) h2 (vl rfl)) ?_
   refine Ch.nil ?_
   refine Fin.go ?_
   refine Tr.weak [(1, _), (5, _), (7, _), (8, _), (9, _), (10, _), (22, _)] ⟨⟨_, rfl, Pr.le_refl _⟩, ⟨_, rfl, Pr.le_refl _⟩, ⟨_, rfl, Pr.le_refl _⟩, ⟨_, rfl, Pr.le_refl _⟩, ⟨_, rfl, Pr.le_refl _⟩, ⟨_, rfl, Pr.le_refl _⟩, ⟨_, rfl, Pr.le_refl _⟩, trivial⟩ ?_
   refine Tr.cond rfl (fun h3 => ?_) (fun h3 => ?_)
   ·
    have q3 := Nrm.nrm h3
    refine Tr.regT ?_
    refine TO.op rfl rfl (by decide) (ok_move rfl (vl rfl)) ?_
    refine TO.op rfl rfl (by decide) (ok_fieldAddr rfl fo40_3 (vl rfl) rfl) ?_
    refine TO.op rfl rfl (by decide) (ok_loadA rfl agg38 sz38 (vl rfl) rfl rfl) ?_
    refine TO.op rfl rfl (by decide) (ok_buildSlice (xs := [.tmp 25]) (rows := [_]) rfl rfl Tryz.underlying50 sz38 z38 rfl (by decide) ⟨⟨(by exact rfl), (VL.le (vl rfl) (agg_cellsP _))⟩, trivial⟩ (by decide)) ?_
    refine TO.efs 0 rfl rfl (by decide) (ef_append rfl rfl (by decide) rfl Tryz.underlying50 sz38 by38 z38 rfl (by decide) ⟨_, rfl, andIs_le _ _⟩ ⟨_, rfl, full_le _ _⟩ (by simp only [List.length_map, List.length_append, List.length_cons, List.length_nil]; unfold maxLen; omega) (by simp only [List.length_map, List.length_append, List.length_cons, List.length_nil]; omega) (appR_is (by exact List.Mem.head _) ⟨_, rfl, andIs_is _ _⟩)) (fun v1 => ?_)
    refine TO.op rfl rfl (by decide) (ok_assign rfl (vl rfl)) ?_
    refine TO.nil ?_
    refine Fin.block ?_
    refine Fin.go ?_
    refine Tr.reg0 ?_
    first
     | (refine Ch.op rfl rfl (by decide) (ok_add rfl (vl rfl) (vl rfl) ?hin) ?_; case hin => unfold InI; omega)
     | refine Ch.op rfl rfl (by decide) (ok_int rfl (vl rfl) (vl rfl) rfl) ?_
    refine Ch.op rfl rfl (by decide) (ok_move rfl (vl rfl)) ?_
    refine Ch.nil ?_
    have hus := fm_take (useOf s) hx_k
    first
     | rw [use_yes (by assumption) (by omega)] at hus
     | rw [use_no (by first | (left; assumption) | (right; omega))] at hus
    have hup : usesF (l.take (k + 1)) s = _ := hus
    exact Fin.famV1 (k + 1) v1 (⟨hk_k, by omega⟩) ⟨⟨_, rfl, int_succ k⟩, ⟨_, rfl, own_le (by rw [hup, List.map_append]; first | rfl | exact (List.append_nil _).symm)⟩, ⟨_, rfl, Pr.le_refl _⟩, ⟨_, rfl, Pr.le_refl _⟩, ⟨_, rfl, Pr.le_refl _⟩, trivial⟩ (fun _ _ h => h)
   ·
    have q3 := Nrm.nrm h3
    refine Tr.skip ?_
    refine Fin.block ?_
    refine Fin.go ?_
    refine Tr.reg0 ?_
    first
     | (refine Ch.op rfl rfl (by decide) (ok_add rfl (vl rfl) (vl rfl) ?hin) ?_; case hin => unfold InI; omega)
     | refine Ch.op rfl rfl (by decide) (ok_int rfl (vl rfl) (vl rfl) rfl) ?_
    refine Ch.op rfl rfl (by decide) (ok_move rfl (vl rfl)) ?_
    refine Ch.nil ?_
    have hus := fm_take (useOf s) hx_k
    first
     | rw [use_yes (by assumption) (by omega)] at hus
     | rw [use_no (by first | (left; assumption) | (right; omega))] at hus
    have hup : usesF (l.take (k + 1)) s = _ := hus
    exact Fin.famV1 (k + 1) v (⟨hk_k, by omega⟩) ⟨⟨_, rfl, int_succ k⟩, ⟨_, rfl, own_le (by rw [hup, List.map_append]; first | rfl | exact (List.append_nil _).symm)⟩, ⟨_, rfl, Pr.le_refl _⟩, ⟨_, rfl, Pr.le_refl _⟩, ⟨_, rfl, Pr.le_refl _⟩, trivial⟩ (fun _ _ h => h)
  ·
   have q2 := Nrm.nrm h2
   refine Ch.no rfl rfl rfl (ne_true h2) rfl (by decide) ?_
   refine Ch.no rfl rfl rfl (ne_true h2) rfl (by decide) ?_
   refine Ch.no rfl rfl rfl (ne_true h2) rfl (by decide) ?_
   refine Ch.op rfl rfl (by decide) (ok_pick_f rfl (vl rfl) h2 (vl rfl)) ?_
   refine Ch.nil ?_
   refine Fin.go ?_
   refine Tr.weak [(1, _), (5, _), (7, _), (8, _), (9, _), (10, _), (22, _)] ⟨⟨_, rfl, Pr.le_refl _⟩, ⟨_, rfl, Pr.le_refl _⟩, ⟨_, rfl, Pr.le_refl _⟩, ⟨_, rfl, Pr.le_refl _⟩, ⟨_, rfl, Pr.le_refl _⟩, ⟨_, rfl, Pr.le_refl _⟩, ⟨_, rfl, Pr.le_refl _⟩, trivial⟩ ?_
   refine Tr.cond rfl (fun h => nomatch h) (fun _ => ?_)
   refine Tr.skip ?_
   refine Fin.block ?_
   refine Fin.go ?_
   refine Tr.reg0 ?_
   first
    | (refine Ch.op rfl rfl (by decide) (ok_add rfl (vl rfl) (vl rfl) ?hin) ?_; case hin => unfold InI; omega)
    | refine Ch.op rfl rfl (by decide) (ok_int rfl (vl rfl) (vl rfl) rfl) ?_
   refine Ch.op rfl rfl (by decide) (ok_move rfl (vl rfl)) ?_
   refine Ch.nil ?_
   have hus := fm_take (useOf s) hx_k
   first
    | rw [use_yes (by assumption) (by omega)] at hus
    | rw [use_no (by first | (left; assumption) | (right; omega))] at hus
   have hup : usesF (l.take (k + 1)) s = _ := hus
   exact Fin.famV1 (k + 1) v (⟨hk_k, by omega⟩) ⟨⟨_, rfl, int_succ k⟩, ⟨_, rfl, own_le (by rw [hup, List.map_append]; first | rfl | exact (List.append_nil _).symm)⟩, ⟨_, rfl, Pr.le_refl _⟩, ⟨_, rfl, Pr.le_refl _⟩, ⟨_, rfl, Pr.le_refl _⟩, trivial⟩ (fun _ _ h => h)
 ·
  have q1 := Nrm.nrm h1
  have he_k : k = (l).length := by have := ge_of_dec h1; omega
  subst he_k
  refine Tr.exit ?_
  refine Fin.then_exit ?_
  refine Fin.then_exit ?_
  refine Fin.block_here ?_
  refine Fin.go ?_
  refine Tr.seq ?_
  refine Tr.reg0 ?_
  refine Ch.op rfl rfl (by decide) (ok_move rfl (vl rfl)) ?_
  refine Ch.op rfl rfl (by decide) (ok_assign rfl (vl rfl)) ?_
  refine Ch.nil ?_
  refine Fin.go ?_
  refine Tr.ret ?_
  refine Fin.ret1 rfl (OutW.bse _ _) rfl ?_
  · exact Pr.le_trans (andIs_le _ _) (Pr.le_of_eq (by rw [List.take_length]))
end Go.Proofs.YthmnoekgicggnaaGreat
namespace Cp
open Go Go.RowKit Go.Great

section
variable {P : Program} {n : Nat} {E : Env} {M0 : Av} {w0 : World} {S : Nat → Prop} {rs : List Res} {o : Oper}

theorem okb_len {I : Asn} {t e : TypeId} {x : Operand} {A : Option Addr} {m cap : Nat} (ho : o.op = .call { callee := .builtin .len, args := #[x], argTypes := #[t] }) (ht : P.underlying t = some (.slice e)) (hx : VL E x (is (.slice A m cap))) : OpOK P I o E (int m) :=
  OpOK.same fun M w a he _ => by
    have h1 : a.eval x = _ := hx.ev he (by simp [ho, Op.operands, Call.operands])
    exact ⟨.int .i64 m, by simp [execOp, ho, resolve, invoke, builtin, Builtin.len_, h1, run_underlying ht, goInt], rfl⟩
theorem cells_at {β : Type} {f : β → List Pr} {l : List β} {qs : List Pr} {sz : Nat} (hf : ∀ x, (f x).length = sz) {i : Nat} {x : β} (h : l[i]? = some x) : ((((l.map f).flatten ++ qs).drop (i * sz)).take sz) = f x := by
  have hl : ∀ r ∈ l.map f, r.length = sz := fun r hr => by obtain ⟨y, _, rfl⟩ := List.mem_map.1 hr; exact hf y
  have hi : i < l.length := by rcases Nat.lt_or_ge i l.length with h' | h'; exact h'; rw [List.getElem?_eq_none h'] at h; cases h
  have hfl := flat_len hl
  rw [List.length_map] at hfl
  have hle : (i + 1) * sz ≤ l.length * sz := Nat.mul_le_mul_right sz hi
  rw [Nat.add_mul, Nat.one_mul] at hle
  apply List.ext_getElem?
  intro k
  rw [List.getElem?_take]
  split
  · rename_i hk
    rw [List.getElem?_drop, List.getElem?_append_left (by rw [hfl]; omega), flat_at hl (by rw [List.getElem?_map, h]; rfl) hk]
  · rename_i hk
    rw [List.getElem?_eq_none (by rw [hf]; omega)]
theorem cells_set {β : Type} {f : β → List Pr} {sz : Nat} (hf : ∀ x, (f x).length = sz) : ∀ {l : List β} {qs : List Pr} {i : Nat} {x : β}, i < l.length → ((l.map f).flatten ++ qs).take (i * sz) ++ f x ++ ((l.map f).flatten ++ qs).drop (i * sz + sz) = ((l.set i x).map f).flatten ++ qs
  | [], _, _, _, h => by simp at h
  | a :: l, qs, 0, x, _ => by
    simp only [List.map_cons, List.flatten_cons, Nat.zero_mul, List.take_zero, List.nil_append, Nat.zero_add, List.set_cons_zero]
    rw [← hf a, List.append_assoc, List.drop_left, List.append_assoc]
  | a :: l, qs, i + 1, x, h => by
    have ih := cells_set hf (l := l) (qs := qs) (i := i) (x := x) (by simpa using h)
    simp only [List.map_cons, List.flatten_cons, List.set_cons_succ]
    have e1 : (i + 1) * sz = (f a).length + i * sz := by rw [hf a, Nat.add_mul]; omega
    rw [List.append_assoc, List.append_assoc, e1, List.take_append, List.take_of_length_le (by omega), show (f a).length + i * sz - (f a).length = i * sz by omega, show (f a).length + i * sz + sz = (f a).length + (i * sz + sz) by omega, List.drop_append, List.drop_of_length_le (by omega), show (f a).length + (i * sz + sz) - (f a).length = i * sz + sz by omega, List.nil_append, List.append_assoc (f a) _ qs, ← ih]
    simp only [List.append_assoc]
theorem cells_len {β : Type} {f : β → List Pr} {l : List β} {qs : List Pr} {sz : Nat} (hf : ∀ x, (f x).length = sz) : ((l.map f).flatten ++ qs).length = l.length * sz + qs.length := by
  rw [List.length_append, flat_len (sz := sz) (fun r hr => by obtain ⟨y, _, rfl⟩ := List.mem_map.1 hr; exact hf y), List.length_map]
theorem map_rows {β : Type} {f : β → List Pr} {l : List β} {sz : Nat} (hf : ∀ x, (f x).length = sz) : ∀ r ∈ l.map f, r.length = sz := fun r hr => by obtain ⟨y, _, rfl⟩ := List.mem_map.1 hr; exact hf y
end
end Cp
namespace Go.Proofs.YthmnoekgicggnaaGreat
open Go Go.RowKit Cp

end Go.Proofs.YthmnoekgicggnaaGreat
namespace Go.Proofs.YthmnoekgicggnaaGreat
open Go Go.RowKit Cp

abbrev aF : Fnd := ⟨1, [97], 1, 3, 9, 1, [115], 1, 0, 0, []⟩
abbrev aG : Fnd := ⟨1, [97], 1, 5, 9, 8, [115], 1, 0, 0, []⟩
abbrev aX : Fct := ⟨0, [115], 1, 1, 0, 0, [], 0⟩
theorem a_check : ∀ f ∈ [aF, aG], checkF f = true := by decide +kernel
theorem a_fits : ∀ f ∈ [aF, aG], f.fits := by
  intro f hf
  simp at hf
  rcases hf with rfl | rfl <;> exact ⟨by simp [maxLen], by simp [maxLen], by simp [maxLen]⟩
theorem a_norm : [aF, aG].foldl putF [] = [aF, aG] := by kernel_rfl
theorem a_NormP : NormP [aF, aG] := by have := norm_ok a_check (by simp); rwa [a_norm] at this
theorem w_NormA : Fun Tryz.prog 34 [fnds [aF, aG]] (tup [fnds [aF, aG], int 0]) := by
  have := w_R14Norm (l := [aF, aG]) a_check (by simp); rwa [a_norm] at this
theorem a_asc : Asc [0, 1] := by
  intro j x y hx hy
  match j with
  | 0 => simp at hx hy; omega
  | k + 1 => simp at hy
theorem a_in : InR [0, 1] [aF, aG].length := by intro i hi; simp at hi; rcases hi with rfl | rfl <;> simp
theorem a_dec4 : (decM [aF, aG] [0, 1] 4 100).filterMap (fun p => factOf [aF, aG] 0 p.2) = [aX] := by decide +kernel
theorem a_dec5 : (decM [aF, aG] [0, 1] 5 100).filterMap (fun p => factOf [aF, aG] 0 p.2) = [] := by decide +kernel
theorem w_FactsA : Fun Tryz.prog 12 [fnds [aF, aG], entP 0 [0, 1], int 4, int 100] (tup [fcts [aX], int 0]) := by
  have := w_Facts1 (l := [aF, aG]) (n := 0) (t := 4) (o := 100) (own := [0, 1]) a_NormP a_fits (by omega) (by omega) a_asc a_in (by simp) (by decide +kernel); rwa [a_dec4] at this
theorem w_FactsB : Fun Tryz.prog 12 [fnds [aF, aG], entP 0 [0, 1], int 5, int 100] (tup [fcts [], int 0]) := by
  have := w_Facts1 (l := [aF, aG]) (n := 0) (t := 5) (o := 100) (own := [0, 1]) a_NormP a_fits (by omega) (by omega) a_asc a_in (by simp) (by decide +kernel); rwa [a_dec5] at this
theorem w_UsesA : Fun Tryz.prog 20 [fcts [aX], str [115]] (usesP [(1, 0)]) := w_Uses (l := [aX]) (s := [115]) (by simp)

set_option maxRecDepth 20000 in
theorem w_awake   : Fun Tryz.prog 9 [] (bool true) := by
 refine Fun.of Tryz.func9 rfl rfl (by exact Nat.le_of_ble_eq_true rfl) fun M0 w0 => ?_
 refine Tr.seq ?_
 refine Tr.reg0 ?_
 refine Ch.op rfl rfl (by decide) (ok_assign rfl (vl rfl)) ?_
 refine Ch.nil ?_
 refine Fin.go ?_
 refine Tr.seq ?_
 refine Tr.regT ?_
 refine TO.op rfl rfl (by decide) (ok_build (rows := [(0, [_])]) rfl bl38 zo38 ⟨⟨rfl, (VL.le (vl rfl) (one_cellsP _))⟩, trivial⟩ rfl) ?_
 refine TO.op rfl rfl (by decide) (ok_build (rows := [(0, [_]), (1, [_]), (2, [_]), (3, [_]), (4, [_]), (5, [_]), (6, [_]), (7, _)]) rfl bl42 zo42 ⟨⟨rfl, (VL.le (vl rfl) (one_cellsP _))⟩, ⟨⟨rfl, (VL.le (vl rfl) (one_cellsP _))⟩, ⟨⟨rfl, (VL.le (vl rfl) (one_cellsP _))⟩, ⟨⟨rfl, (VL.le (vl rfl) (one_cellsP _))⟩, ⟨⟨rfl, (VL.le (vl rfl) (one_cellsP _))⟩, ⟨⟨rfl, (VL.le (vl rfl) (one_cellsP _))⟩, ⟨⟨rfl, (VL.le (vl rfl) (one_cellsP _))⟩, ⟨⟨rfl, (VL.le (vl rfl) (agg_cellsP _))⟩, trivial⟩⟩⟩⟩⟩⟩⟩⟩ rfl) ?_
 refine TO.alloc rfl rfl (by decide) rfl z42 zo42 (fun b1 => ?_)
 refine TO.store_all 0 rfl rfl rfl (vl rfl) (VL.le (vl rfl) (agg_cellsP _)) rfl sz42 rfl rfl ?_
 refine TO.freeze 0 1 rfl rfl ?_
 refine TO.nil ?_
 refine Fin.go ?_
 refine Tr.seq ?_
 refine Tr.regT ?_
 refine TO.op rfl rfl (by decide) (ok_loadA rfl agg42 sz42 (vl rfl) rfl rfl) ?_
 refine TO.alloc rfl rfl (by decide) rfl z42 zo42 (fun b2 => ?_)
 refine TO.store_all 0 rfl rfl rfl (vl rfl) (VL.le (vl rfl) (agg_cellsP _)) rfl sz42 rfl rfl ?_
 refine TO.nil ?_
 refine Fin.go ?_
 refine Tr.seq ?_
 refine Tr.regT ?_
 refine TO.op rfl rfl (by decide) (okp_fieldAddr rfl fo42_5 (vl rfl)) ?_
 refine TO.ef0 0 rfl rfl (ef_store rfl rfl (vl rfl) (VL.le (vl rfl) (one_cellsP _)) sz3 rfl (by exact Nat.le_of_ble_eq_true rfl) rfl) ?_
 refine TO.op rfl rfl (by decide) (okp_fieldAddr rfl fo42_3 (vl rfl)) ?_
 refine TO.ef0 0 rfl rfl (ef_store rfl rfl (vl rfl) (VL.le (vl rfl) (one_cellsP _)) sz3 rfl (by exact Nat.le_of_ble_eq_true rfl) rfl) ?_
 refine TO.nil ?_
 refine Fin.go ?_
 refine Tr.seq ?_
 refine Tr.reg0 ?_
 refine Ch.op rfl rfl (by decide) (ok_loadA rfl agg42 sz42 (vl rfl) rfl rfl) ?_
 refine Ch.op rfl rfl (by decide) (ok_rd 0 rfl (rd_loadA rfl agg42 sz42 (vl rfl) rfl rfl)) ?_
 refine Ch.op rfl rfl (by decide) (ok_buildSlice (xs := [.tmp 16, .tmp 17]) (rows := [_, _]) rfl rfl Tryz.underlying27 sz42 z42 rfl (by decide) ⟨⟨(by exact rfl), (VL.le (vl rfl) (agg_cellsP _))⟩, ⟨⟨(by exact rfl), (VL.le (vl rfl) (agg_cellsP _))⟩, trivial⟩⟩ (by decide)) ?_
 refine Ch.op rfl rfl (by decide) (ok_call rfl (w_NormA) ⟨⟨_, rfl, full_le _ _⟩, trivial⟩) ?_
 refine Ch.op rfl rfl (by decide) (ok_move rfl (vl rfl)) ?_
 refine Ch.op rfl rfl (by decide) (ok_extract rfl (vl rfl) rfl) ?_
 refine Ch.op rfl rfl (by decide) (ok_extract rfl (vl rfl) rfl) ?_
 refine Ch.op rfl rfl (by decide) (ok_assign rfl (vl rfl)) ?_
 refine Ch.op rfl rfl (by decide) (ok_assign rfl (vl rfl)) ?_
 refine Ch.nil ?_
 refine Fin.go ?_
 refine Tr.drop 0 ?_
 refine Tr.weak [(3, _)] ⟨⟨_, rfl, Pr.le_refl _⟩, trivial⟩ ?_
 refine Tr.seq ?_
 refine Tr.regT ?_
 refine TO.op rfl rfl (by decide) (ok_buildSlice (xs := [.const (.int .i64 (0)), .const (.int .i64 (1))]) (rows := [[_], [_]]) rfl rfl Tryz.underlying22 sz3 z3 rfl (by decide) ⟨⟨(by exact rfl), (VL.le (vl rfl) (one_cellsP _))⟩, ⟨⟨(by exact rfl), (VL.le (vl rfl) (one_cellsP _))⟩, trivial⟩⟩ (by decide)) ?_
 refine TO.op rfl rfl (by decide) (ok_build (rows := [(3, [_])]) rfl bl35 zo35 ⟨⟨rfl, ⟨_, rfl, Pr.le_trans (full_le _ _) (one_cellsP _)⟩⟩, trivial⟩ rfl) ?_
 refine TO.alloc rfl rfl (by decide) rfl z35 zo35 (fun b3 => ?_)
 refine TO.store_all 0 rfl rfl rfl (vl rfl) (VL.le (vl rfl) (agg_cellsP _)) rfl sz35 rfl rfl ?_
 refine TO.freeze 0 5 rfl rfl ?_
 refine TO.nil ?_
 refine Fin.go ?_
 refine Tr.seq ?_
 refine Tr.reg0 ?_
 refine Ch.op rfl rfl (by decide) (ok_move rfl (vl rfl)) ?_
 refine Ch.op rfl rfl (by decide) (ok_loadA rfl agg35 sz35 (vl rfl) rfl rfl) ?_
 refine Ch.op rfl rfl (by decide) (ok_call rfl (w_FactsA) ⟨⟨_, rfl, Pr.le_refl _⟩, ⟨_, rfl, agg_le ⟨Pr.le_refl _, le_any _, le_any _, Pr.le_refl _, trivial⟩⟩, ⟨_, rfl, Pr.le_refl _⟩, ⟨_, rfl, Pr.le_refl _⟩, trivial⟩) ?_
 refine Ch.op rfl rfl (by decide) (ok_move rfl (vl rfl)) ?_
 refine Ch.op rfl rfl (by decide) (ok_extract rfl (vl rfl) rfl) ?_
 refine Ch.op rfl rfl (by decide) (ok_extract rfl (vl rfl) rfl) ?_
 refine Ch.op rfl rfl (by decide) (ok_assign rfl (vl rfl)) ?_
 refine Ch.op rfl rfl (by decide) (ok_assign rfl (vl rfl)) ?_
 refine Ch.nil ?_
 refine Fin.go ?_
 refine Tr.weak [(3, _), (5, _), (6, _), (7, _)] ⟨⟨_, rfl, Pr.le_refl _⟩, ⟨_, rfl, Pr.le_refl _⟩, ⟨_, rfl, Pr.le_refl _⟩, ⟨_, rfl, Pr.le_refl _⟩, trivial⟩ ?_
 refine Tr.seq ?_
 refine Tr.reg0 ?_
 refine Ch.op rfl rfl (by decide) (ok_move rfl (vl rfl)) ?_
 refine Ch.op rfl rfl (by decide) (ok_loadA rfl agg35 sz35 (vl rfl) rfl rfl) ?_
 refine Ch.op rfl rfl (by decide) (ok_call rfl (w_FactsB) ⟨⟨_, rfl, Pr.le_refl _⟩, ⟨_, rfl, agg_le ⟨Pr.le_refl _, le_any _, le_any _, Pr.le_refl _, trivial⟩⟩, ⟨_, rfl, Pr.le_refl _⟩, ⟨_, rfl, Pr.le_refl _⟩, trivial⟩) ?_
 refine Ch.op rfl rfl (by decide) (ok_move rfl (vl rfl)) ?_
 refine Ch.op rfl rfl (by decide) (ok_extract rfl (vl rfl) rfl) ?_
 refine Ch.op rfl rfl (by decide) (ok_extract rfl (vl rfl) rfl) ?_
 refine Ch.op rfl rfl (by decide) (ok_assign rfl (vl rfl)) ?_
 refine Ch.op rfl rfl (by decide) (ok_assign rfl (vl rfl)) ?_
 refine Ch.nil ?_
 refine Fin.go ?_
 refine Tr.seq ?_
 refine Tr.reg0 ?_
 refine Ch.op rfl rfl (by decide) (ok_move rfl (vl rfl)) ?_
 refine Ch.op rfl rfl (by decide) (ok_int rfl (vl rfl) (vl rfl) rfl) ?_
 refine Ch.op rfl rfl (by decide) (ok_move rfl (vl rfl)) ?_
 refine Ch.cases 38 rfl (fun h1 => ?_) (fun h1 => ?_)
 ·
  have q1 := Nrm.nrm h1
  refine Ch.yes rfl rfl rfl h1 rfl (by decide) (ok_move rfl (vl rfl)) ?_
  refine Ch.yes rfl rfl rfl h1 rfl (by decide) (ok_int rfl (vl rfl) (vl rfl) rfl) ?_
  refine Ch.op rfl rfl (by decide) (ok_pick_t rfl (vl rfl) h1 (vl rfl)) ?_
  refine Ch.op rfl rfl (by decide) (ok_move rfl (vl rfl)) ?_
  refine Ch.cases 42 rfl (fun h2 => ?_) (fun h2 => ?_)
  ·
   have q2 := Nrm.nrm h2
   refine Ch.yes rfl rfl rfl h2 rfl (by decide) (ok_move rfl (vl rfl)) ?_
   first
    | refine Ch.yes rfl rfl rfl h2 rfl (by decide) (ok_lenm rfl Tryz.underlying29 (vl rfl)) ?_
    | refine Ch.yes rfl rfl rfl h2 rfl (by decide) (ok_len rfl Tryz.underlying29 (vl rfl)) ?_
   refine Ch.yes rfl rfl rfl h2 rfl (by decide) (ok_int rfl (vl rfl) (vl rfl) rfl) ?_
   refine Ch.op rfl rfl (by decide) (ok_pick_t rfl (vl rfl) h2 (vl rfl)) ?_
   refine Ch.op rfl rfl (by decide) (ok_move rfl (vl rfl)) ?_
   refine Ch.cases 47 rfl (fun h3 => ?_) (fun h3 => ?_)
   ·
    have q3 := Nrm.nrm h3
    refine Ch.yes rfl rfl rfl h3 rfl (by decide) (ok_move rfl (vl rfl)) ?_
    first
     | refine Ch.yes rfl rfl rfl h3 rfl (by decide) (ok_lenm rfl Tryz.underlying29 (vl rfl)) ?_
     | refine Ch.yes rfl rfl rfl h3 rfl (by decide) (ok_len rfl Tryz.underlying29 (vl rfl)) ?_
    refine Ch.yes rfl rfl rfl h3 rfl (by decide) (ok_int rfl (vl rfl) (vl rfl) rfl) ?_
    refine Ch.op rfl rfl (by decide) (ok_pick_t rfl (vl rfl) h3 (vl rfl)) ?_
    refine Ch.op rfl rfl (by decide) (ok_move rfl (vl rfl)) ?_
    refine Ch.cases 52 rfl (fun h4 => ?_) (fun h4 => ?_)
    ·
     have q4 := Nrm.nrm h4
     refine Ch.yes rfl rfl rfl h4 rfl (by decide) (ok_move rfl (vl rfl)) ?_
     refine Ch.yes rfl rfl rfl h4 rfl (by decide) (ok_call rfl (w_UsesA) ⟨⟨_, rfl, Pr.le_refl _⟩, ⟨_, rfl, Pr.le_refl _⟩, trivial⟩) ?_
     first
      | refine Ch.yes rfl rfl rfl h4 rfl (by decide) (ok_lenm rfl Tryz.underlying50 (vl rfl)) ?_
      | refine Ch.yes rfl rfl rfl h4 rfl (by decide) (ok_len rfl Tryz.underlying50 (vl rfl)) ?_
     refine Ch.yes rfl rfl rfl h4 rfl (by decide) (ok_int rfl (vl rfl) (vl rfl) rfl) ?_
     refine Ch.op rfl rfl (by decide) (ok_pick_t rfl (vl rfl) h4 (vl rfl)) ?_
     refine Ch.op rfl rfl (by decide) (ok_assign rfl (vl rfl)) ?_
     refine Ch.nil ?_
     refine Fin.go ?_
     refine Tr.weak [(0, _)] ⟨⟨_, rfl, Pr.le_refl _⟩, trivial⟩ ?_
     refine Tr.ret ?_
     refine Fin.ret1 rfl (OutW.bse _ _) rfl ?_
     · first | exact Pr.le_refl _ | (refine int_eq ?_; simp_all; done) | (refine bool_eq ?_; simp_all; done) | (refine bool_eq ?_; simp_all; omega) | (refine int_eq ?_; omega)
    ·
     have q4 := Nrm.nrm h4
     exfalso; simp at h4
   ·
    have q3 := Nrm.nrm h3
    exfalso; simp at h3
  ·
   have q2 := Nrm.nrm h2
   exfalso; simp at h2
 ·
  have q1 := Nrm.nrm h1
  exfalso; simp at h1
end Go.Proofs.YthmnoekgicggnaaGreat
namespace Go.Proofs.YthmnoekgicggnaaGreat
open Go Go.RowKit Cp

theorem fact_in {φ : Prop} {p q : Pr} (h : φ) (hl : Pr.le p q) : Pr.le p (fact φ q) := fun _ _ _ hp => ⟨h, hl _ _ _ hp⟩
theorem tab_pos {l : List UInt8} {x : Nat} {hl : x < l.length} (h : (l.drop 1).all (fun b => decide (1 ≤ b.toNat)) = true) (h0 : 1 ≤ x) : ¬ IntKind.i64.wrap (IntKind.i64.wrap ((l[x]).toNat : Int)) = 0 := by
  have h1 : (l.drop 1)[x - 1]? = some l[x] := by rw [List.getElem?_drop, show 1 + (x - 1) = x by omega, List.getElem?_eq_getElem hl]
  have := List.all_eq_true.1 h _ (List.mem_of_getElem? h1)
  have hb : (l[x]).toNat < 256 := UInt8.toNat_lt _
  have hw := IntWalk.i64_in ((l[x]).toNat : Int) ⟨by omega, by omega⟩
  rw [hw, hw]
  simp at this; omega
theorem asc_lt {l : List Int} (h : Asc l) : ∀ (d i : Nat) {x y : Int}, l[i]? = some x → l[i + (d + 1)]? = some y → x < y
  | 0, i, x, y, hx, hy => h i x y hx hy
  | d + 1, i, x, y, hx, hy => by
    have hlt : i + (d + 1) < l.length := by
      rcases Nat.lt_or_ge (i + (d + 1)) l.length with h' | h'
      · exact h'
      · rw [List.getElem?_eq_none (by omega)] at hy; cases hy
    have h1 := asc_lt h d i hx (List.getElem?_eq_getElem hlt)
    have h2 := h (i + (d + 1)) _ y (List.getElem?_eq_getElem hlt) (by rw [show i + (d + 1) + 1 = i + (d + 1 + 1) by omega]; exact hy)
    omega
theorem asc_ltI {l : List Int} (h : Asc l) {i j : Int} {x y : Int} (h0 : 0 ≤ i) (hij : i < j) (hx : l[i.toNat]? = some x) (hy : l[j.toNat]? = some y) : x < y :=
  asc_lt h (j.toNat - i.toNat - 1) i.toNat hx (by rw [show i.toNat + (j.toNat - i.toNat - 1 + 1) = j.toNat by omega]; exact hy)

set_option maxRecDepth 20000 in
theorem w_Len64p {x : Int} (h0 : 1 ≤ x) (h1 : x < 256) : Fun Tryz.prog 114 [is (.int .u64 x)] (ex fun k : Int => fact (¬ k = 0) (int k)) := by
 refine Fun.of Tryz.func114 rfl rfl (by exact Nat.le_of_ble_eq_true rfl) fun M0 w0 => ?_
 have hw : IntKind.u8.wrap x = x := IntWalk.u8_in x ⟨by omega, by omega⟩
 refine Tr.seq ?_
 refine Tr.reg0 ?_
 refine Ch.op rfl rfl (by decide) (ok_assign rfl (vl rfl)) ?_
 refine Ch.nil ?_
 refine Fin.go ?_
 refine Tr.seq ?_
 refine Tr.seq ?_
 refine Tr.reg0 ?_
 refine Ch.op rfl rfl (by decide) (ok_move rfl (vl rfl)) ?_
 refine Ch.op rfl rfl (by decide) (ok_int rfl (vl rfl) (vl rfl) rfl) ?_
 refine Ch.nil ?_
 refine Fin.go ?_
 refine Tr.cond rfl (fun h1 => ?_) (fun h1 => ?_)
 ·
  have q1 := Nrm.nrm h1
  exfalso; omega
 ·
  have q1 := Nrm.nrm h1
  refine Tr.skip ?_
  refine Fin.go ?_
  refine Tr.seq ?_
  refine Tr.seq ?_
  refine Tr.reg0 ?_
  refine Ch.op rfl rfl (by decide) (ok_move rfl (vl rfl)) ?_
  refine Ch.op rfl rfl (by decide) (ok_int rfl (vl rfl) (vl rfl) rfl) ?_
  refine Ch.nil ?_
  refine Fin.go ?_
  refine Tr.cond rfl (fun h2 => ?_) (fun h2 => ?_)
  ·
   have q2 := Nrm.nrm h2
   exfalso; omega
  ·
   have q2 := Nrm.nrm h2
   refine Tr.skip ?_
   refine Fin.go ?_
   refine Tr.seq ?_
   refine Tr.seq ?_
   refine Tr.reg0 ?_
   refine Ch.op rfl rfl (by decide) (ok_move rfl (vl rfl)) ?_
   refine Ch.op rfl rfl (by decide) (ok_int rfl (vl rfl) (vl rfl) rfl) ?_
   refine Ch.nil ?_
   refine Fin.go ?_
   refine Tr.cond rfl (fun h3 => ?_) (fun h3 => ?_)
   ·
    have q3 := Nrm.nrm h3
    exfalso; omega
   ·
    have q3 := Nrm.nrm h3
    refine Tr.skip ?_
    refine Fin.go ?_
    refine Tr.seq ?_
    refine Tr.reg0 ?_
    refine Ch.op rfl rfl (by decide) (ok_move rfl (vl rfl)) ?_
    refine Ch.op rfl rfl (by decide) (ok_move rfl (vl rfl)) ?_
    first
     | refine Ch.op rfl rfl (by decide) (ok_convI rfl Tryz.underlying138 Tryz.underlying5 (vl rfl) (by unfold InI; omega)) ?_
     | refine Ch.op rfl rfl (by decide) (ok_conv rfl Tryz.underlying138 Tryz.underlying5 (vl rfl)) ?_
    refine Ch.op rfl rfl (by decide) (ok_sidx rfl Tryz.underlying9 (vl rfl) (vl rfl) (by omega) (List.getElem?_eq_getElem (by show _ < 256; omega))) ?_
    first
     | refine Ch.op rfl rfl (by decide) (ok_convI rfl Tryz.underlying5 Tryz.underlying3 (vl rfl) (by unfold InI; omega)) ?_
     | refine Ch.op rfl rfl (by decide) (ok_conv rfl Tryz.underlying5 Tryz.underlying3 (vl rfl)) ?_
    first
     | (refine Ch.op rfl rfl (by decide) (ok_add rfl (vl rfl) (vl rfl) ?hin) ?_; case hin => unfold InI; omega)
     | refine Ch.op rfl rfl (by decide) (ok_int rfl (vl rfl) (vl rfl) rfl) ?_
    refine Ch.op rfl rfl (by decide) (ok_assign rfl (vl rfl)) ?_
    refine Ch.nil ?_
    refine Fin.go ?_
    refine Tr.weak [(2, _)] ⟨⟨_, rfl, Pr.le_refl _⟩, trivial⟩ ?_
    refine Tr.ret ?_
    refine Fin.ret1 rfl (OutW.bse _ _) rfl ?_
    · refine ex_in _ (fact_in ?_ (Pr.le_refl _)); rw [Int.zero_add]; refine tab_pos ?_ (by rw [hw]; omega); decide +kernel
set_option maxRecDepth 20000 in
theorem w_BLenp {x : Int} (h0 : 1 ≤ x) (h1 : x < 256) : Fun Tryz.prog 66 [is (.int .u64 x)] (ex fun k : Int => fact (¬ k = 0) (int k)) := by
 refine Fun.of Tryz.func66 rfl rfl (by exact Nat.le_of_ble_eq_true rfl) fun M0 w0 => ?_
 refine Tr.seq ?_
 refine Tr.reg0 ?_
 refine Ch.op rfl rfl (by decide) (ok_assign rfl (vl rfl)) ?_
 refine Ch.nil ?_
 refine Fin.go ?_
 refine Tr.seq ?_
 refine Tr.cond rfl (fun h => nomatch h) (fun _ => ?_)
 refine Tr.skip ?_
 refine Fin.go ?_
 refine Tr.seq ?_
 refine Tr.reg0 ?_
 refine Ch.op rfl rfl (by decide) (ok_move rfl (vl rfl)) ?_
 refine Ch.op rfl rfl (by decide) (ok_call rfl (w_Len64p (by omega) (by omega)) ⟨⟨_, rfl, Pr.le_refl _⟩, trivial⟩) ?_
 refine Ch.op rfl rfl (by decide) (ok_assign rfl (vl rfl)) ?_
 refine Ch.nil ?_
 refine Fin.go ?_
 refine Tr.ret ?_
 refine Fin.ret1 rfl (OutW.bse _ _) rfl ?_
 · first | exact Pr.le_refl _ | (refine int_eq ?_; simp_all; done) | (refine bool_eq ?_; simp_all; done) | (refine bool_eq ?_; simp_all; omega) | (refine int_eq ?_; omega)
set_option maxRecDepth 20000 in
theorem w_order2Asc {l : List Int} {a b : Int} (hl : Asc l) (h0 : 0 ≤ a) (hab : a < b) (hb : b < l.length) : Fun Tryz.prog 163 [ints l, int a, int b, any] (tup [int a, int b]) := by
 refine Fun.of Tryz.func163 rfl rfl (by exact Nat.le_of_ble_eq_true rfl) fun M0 w0 => ?_
 obtain ⟨x, hx⟩ := at_ (l := l) (k := a.toNat) (by omega)
 obtain ⟨y, hy⟩ := at_ (l := l) (k := b.toNat) (by omega)
 have hxy := asc_ltI hl h0 hab hx hy
 refine Tr.seq ?_
 refine Tr.reg0 ?_
 refine Ch.op rfl rfl (by decide) (ok_assign rfl (vl rfl)) ?_
 refine Ch.op rfl rfl (by decide) (ok_assign rfl (vl rfl)) ?_
 refine Ch.nil ?_
 refine Fin.go ?_
 refine Tr.seq ?_
 refine Tr.seq ?_
 refine Tr.reg1 mixed (by kernel_rfl) ?_
 refine Ch.op rfl rfl (by decide) (ok_move rfl (vl rfl)) ?_
 refine Ch.op rfl rfl (by decide) (ok_move rfl (vl rfl)) ?_
 refine Ch.op rfl rfl (by decide) (ok_indexAddr rfl Tryz.underlying22 sz3 (vl rfl) (vl rfl) (by omega) (at_int hy)) ?_
 refine Ch.op rfl rfl (by decide) (ok_load1 rfl one3 (vl rfl)) ?_
 refine Ch.op rfl rfl (by decide) (ok_move rfl (vl rfl)) ?_
 refine Ch.op rfl rfl (by decide) (ok_move rfl (vl rfl)) ?_
 refine Ch.op rfl rfl (by decide) (ok_indexAddr rfl Tryz.underlying22 sz3 (vl rfl) (vl rfl) (by omega) (at_int hx)) ?_
 refine Ch.op rfl rfl (by decide) (ok_load1 rfl one3 (vl rfl)) ?_
 refine Ch.op rfl rfl (by decide) (ok_call rfl (w_lessI) ⟨⟨_, rfl, Pr.le_refl _⟩, ⟨_, rfl, Pr.le_refl _⟩, trivial⟩) ?_
 refine Ch.nil ?_
 refine Fin.go ?_
 refine Tr.cond rfl (fun h1 => ?_) (fun h1 => ?_)
 ·
  have q1 := Nrm.nrm h1
  exfalso; omega
 ·
  have q1 := Nrm.nrm h1
  refine Tr.skip ?_
  refine Fin.go ?_
  refine Tr.seq ?_
  refine Tr.reg0 ?_
  refine Ch.op rfl rfl (by decide) (ok_move rfl (vl rfl)) ?_
  refine Ch.op rfl rfl (by decide) (ok_move rfl (vl rfl)) ?_
  refine Ch.op rfl rfl (by decide) (ok_assign rfl (vl rfl)) ?_
  refine Ch.op rfl rfl (by decide) (ok_assign rfl (vl rfl)) ?_
  refine Ch.nil ?_
  refine Fin.go ?_
  refine Tr.weak [(8, _), (9, _)] ⟨⟨_, rfl, Pr.le_refl _⟩, ⟨_, rfl, Pr.le_refl _⟩, trivial⟩ ?_
  refine Tr.ret ?_
  refine Fin.ret2 rfl (OutW.bse _ _) rfl ?_ rfl ?_
  · first | exact Pr.le_refl _ | (refine int_eq ?_; simp_all; done) | (refine bool_eq ?_; simp_all; done) | (refine bool_eq ?_; simp_all; omega) | (refine int_eq ?_; omega)
  · first | exact Pr.le_refl _ | (refine int_eq ?_; simp_all; done) | (refine bool_eq ?_; simp_all; done) | (refine bool_eq ?_; simp_all; omega) | (refine int_eq ?_; omega)
set_option maxRecDepth 20000 in
theorem w_medAsc {l : List Int} {a b c : Int} (hl : Asc l) (h0 : 0 ≤ a) (hab : a < b) (hbc : b < c) (hc : c < l.length) : Fun Tryz.prog 156 [ints l, int a, int b, int c, any] (int b) := by
 refine Fun.of Tryz.func156 rfl rfl (by exact Nat.le_of_ble_eq_true rfl) fun M0 w0 => ?_
 refine Tr.seq ?_
 refine Tr.reg0 ?_
 refine Ch.op rfl rfl (by decide) (ok_assign rfl (vl rfl)) ?_
 refine Ch.nil ?_
 refine Fin.go ?_
 refine Tr.seq ?_
 refine Tr.reg0 ?_
 refine Ch.op rfl rfl (by decide) (ok_move rfl (vl rfl)) ?_
 refine Ch.op rfl rfl (by decide) (ok_move rfl (vl rfl)) ?_
 refine Ch.op rfl rfl (by decide) (ok_move rfl (vl rfl)) ?_
 refine Ch.op rfl rfl (by decide) (ok_move rfl (vl rfl)) ?_
 refine Ch.op rfl rfl (by decide) (ok_call rfl (w_order2Asc (by assumption) (by omega) (by omega) (by omega)) ⟨⟨_, rfl, Pr.le_refl _⟩, ⟨_, rfl, Pr.le_refl _⟩, ⟨_, rfl, Pr.le_refl _⟩, ⟨_, rfl, le_any _⟩, trivial⟩) ?_
 refine Ch.op rfl rfl (by decide) (ok_move rfl (vl rfl)) ?_
 refine Ch.op rfl rfl (by decide) (ok_extract rfl (vl rfl) rfl) ?_
 refine Ch.op rfl rfl (by decide) (ok_extract rfl (vl rfl) rfl) ?_
 refine Ch.op rfl rfl (by decide) (ok_assign rfl (vl rfl)) ?_
 refine Ch.op rfl rfl (by decide) (ok_assign rfl (vl rfl)) ?_
 refine Ch.nil ?_
 refine Fin.go ?_
 refine Tr.seq ?_
 refine Tr.reg0 ?_
 refine Ch.op rfl rfl (by decide) (ok_move rfl (vl rfl)) ?_
 refine Ch.op rfl rfl (by decide) (ok_move rfl (vl rfl)) ?_
 refine Ch.op rfl rfl (by decide) (ok_move rfl (vl rfl)) ?_
 refine Ch.op rfl rfl (by decide) (ok_move rfl (vl rfl)) ?_
 refine Ch.op rfl rfl (by decide) (ok_call rfl (w_order2Asc (by assumption) (by omega) (by omega) (by omega)) ⟨⟨_, rfl, Pr.le_refl _⟩, ⟨_, rfl, Pr.le_refl _⟩, ⟨_, rfl, Pr.le_refl _⟩, ⟨_, rfl, le_any _⟩, trivial⟩) ?_
 refine Ch.op rfl rfl (by decide) (ok_move rfl (vl rfl)) ?_
 refine Ch.op rfl rfl (by decide) (ok_extract rfl (vl rfl) rfl) ?_
 refine Ch.op rfl rfl (by decide) (ok_extract rfl (vl rfl) rfl) ?_
 refine Ch.op rfl rfl (by decide) (ok_assign rfl (vl rfl)) ?_
 refine Ch.op rfl rfl (by decide) (ok_assign rfl (vl rfl)) ?_
 refine Ch.nil ?_
 refine Fin.go ?_
 refine Tr.weak [(0, _), (1, _), (2, _), (4, _)] ⟨⟨_, rfl, Pr.le_refl _⟩, ⟨_, rfl, Pr.le_refl _⟩, ⟨_, rfl, Pr.le_refl _⟩, ⟨_, rfl, Pr.le_refl _⟩, trivial⟩ ?_
 refine Tr.seq ?_
 refine Tr.reg0 ?_
 refine Ch.op rfl rfl (by decide) (ok_move rfl (vl rfl)) ?_
 refine Ch.op rfl rfl (by decide) (ok_move rfl (vl rfl)) ?_
 refine Ch.op rfl rfl (by decide) (ok_move rfl (vl rfl)) ?_
 refine Ch.op rfl rfl (by decide) (ok_move rfl (vl rfl)) ?_
 refine Ch.op rfl rfl (by decide) (ok_call rfl (w_order2Asc (by assumption) (by omega) (by omega) (by omega)) ⟨⟨_, rfl, Pr.le_refl _⟩, ⟨_, rfl, Pr.le_refl _⟩, ⟨_, rfl, Pr.le_refl _⟩, ⟨_, rfl, le_any _⟩, trivial⟩) ?_
 refine Ch.op rfl rfl (by decide) (ok_move rfl (vl rfl)) ?_
 refine Ch.op rfl rfl (by decide) (ok_extract rfl (vl rfl) rfl) ?_
 refine Ch.op rfl rfl (by decide) (ok_extract rfl (vl rfl) rfl) ?_
 refine Ch.op rfl rfl (by decide) (ok_assign rfl (vl rfl)) ?_
 refine Ch.op rfl rfl (by decide) (ok_assign rfl (vl rfl)) ?_
 refine Ch.nil ?_
 refine Fin.go ?_
 refine Tr.weak [(2, _)] ⟨⟨_, rfl, Pr.le_refl _⟩, trivial⟩ ?_
 refine Tr.seq ?_
 refine Tr.reg0 ?_
 refine Ch.op rfl rfl (by decide) (ok_move rfl (vl rfl)) ?_
 refine Ch.op rfl rfl (by decide) (ok_assign rfl (vl rfl)) ?_
 refine Ch.nil ?_
 refine Fin.go ?_
 refine Tr.ret ?_
 refine Fin.ret1 rfl (OutW.bse _ _) rfl ?_
 · first | exact Pr.le_refl _ | (refine int_eq ?_; simp_all; done) | (refine bool_eq ?_; simp_all; done) | (refine bool_eq ?_; simp_all; omega) | (refine int_eq ?_; omega)
set_option maxRecDepth 20000 in
theorem w_pivAsc {l : List Int} {a b : Int} (hl : Asc l) (h0 : 0 ≤ a) (h8 : 8 ≤ b - a) (h50 : b - a < 50) (hb : b ≤ l.length) (hs : l.length ≤ 1000000) : Fun Tryz.prog 128 [ints l, int a, int b] (tup [any, int 1]) := by
 refine Fun.of Tryz.func128 rfl rfl (by exact Nat.le_of_ble_eq_true rfl) fun M0 w0 => ?_
 have hq : IntKind.i64.wrap ((b - a).tdiv 4) = (b - a) / 4 := by rw [Int.tdiv_eq_ediv_of_nonneg (by omega)]; exact IntWalk.i64_in _ ⟨by omega, by omega⟩
 refine Tr.seq ?_
 refine Tr.reg0 ?_
 refine Ch.op rfl rfl (by decide) (ok_assign rfl (vl rfl)) ?_
 refine Ch.op rfl rfl (by decide) (ok_assign rfl (vl rfl)) ?_
 refine Ch.nil ?_
 refine Fin.go ?_
 refine Tr.seq ?_
 refine Tr.reg0 ?_
 refine Ch.op rfl rfl (by decide) (ok_move rfl (vl rfl)) ?_
 refine Ch.op rfl rfl (by decide) (ok_move rfl (vl rfl)) ?_
 first
  | (refine Ch.op rfl rfl (by decide) (ok_sub rfl (vl rfl) (vl rfl) ?hin) ?_; case hin => unfold InI; omega)
  | refine Ch.op rfl rfl (by decide) (ok_int rfl (vl rfl) (vl rfl) rfl) ?_
 refine Ch.op rfl rfl (by decide) (ok_assign rfl (vl rfl)) ?_
 refine Ch.nil ?_
 refine Fin.go ?_
 refine Tr.seq ?_
 refine Tr.regT ?_
 refine TO.alloc rfl rfl (by decide) rfl z3 zo3 (fun b1 => ?_)
 refine TO.nil ?_
 refine Fin.go ?_
 refine Tr.seq ?_
 refine Tr.reg0 ?_
 refine Ch.op rfl rfl (by decide) (ok_move rfl (vl rfl)) ?_
 refine Ch.op rfl rfl (by decide) (ok_move rfl (vl rfl)) ?_
 refine Ch.op rfl rfl (by decide) (ok_quo rfl (vl rfl) (vl rfl) (by omega)) ?_
 first
  | (refine Ch.op rfl rfl (by decide) (ok_mul rfl (vl rfl) (vl rfl) ?hin) ?_; case hin => unfold InI; omega)
  | refine Ch.op rfl rfl (by decide) (ok_int rfl (vl rfl) (vl rfl) rfl) ?_
 first
  | (refine Ch.op rfl rfl (by decide) (ok_add rfl (vl rfl) (vl rfl) ?hin) ?_; case hin => unfold InI; omega)
  | refine Ch.op rfl rfl (by decide) (ok_int rfl (vl rfl) (vl rfl) rfl) ?_
 refine Ch.op rfl rfl (by decide) (ok_assign rfl (vl rfl)) ?_
 refine Ch.nil ?_
 refine Fin.go ?_
 refine Tr.weak [(0, _), (1, _), (8, _), (9, _), (10, _)] ⟨⟨_, rfl, Pr.le_refl _⟩, ⟨_, rfl, Pr.le_refl _⟩, ⟨_, rfl, Pr.le_refl _⟩, ⟨_, rfl, Pr.le_refl _⟩, ⟨_, rfl, Pr.le_refl _⟩, trivial⟩ ?_
 refine Tr.seq ?_
 refine Tr.reg0 ?_
 refine Ch.op rfl rfl (by decide) (ok_move rfl (vl rfl)) ?_
 refine Ch.op rfl rfl (by decide) (ok_move rfl (vl rfl)) ?_
 refine Ch.op rfl rfl (by decide) (ok_quo rfl (vl rfl) (vl rfl) (by omega)) ?_
 first
  | (refine Ch.op rfl rfl (by decide) (ok_mul rfl (vl rfl) (vl rfl) ?hin) ?_; case hin => unfold InI; omega)
  | refine Ch.op rfl rfl (by decide) (ok_int rfl (vl rfl) (vl rfl) rfl) ?_
 first
  | (refine Ch.op rfl rfl (by decide) (ok_add rfl (vl rfl) (vl rfl) ?hin) ?_; case hin => unfold InI; omega)
  | refine Ch.op rfl rfl (by decide) (ok_int rfl (vl rfl) (vl rfl) rfl) ?_
 refine Ch.op rfl rfl (by decide) (ok_assign rfl (vl rfl)) ?_
 refine Ch.nil ?_
 refine Fin.go ?_
 refine Tr.seq ?_
 refine Tr.reg0 ?_
 refine Ch.op rfl rfl (by decide) (ok_move rfl (vl rfl)) ?_
 refine Ch.op rfl rfl (by decide) (ok_move rfl (vl rfl)) ?_
 refine Ch.op rfl rfl (by decide) (ok_quo rfl (vl rfl) (vl rfl) (by omega)) ?_
 first
  | (refine Ch.op rfl rfl (by decide) (ok_mul rfl (vl rfl) (vl rfl) ?hin) ?_; case hin => unfold InI; omega)
  | refine Ch.op rfl rfl (by decide) (ok_int rfl (vl rfl) (vl rfl) rfl) ?_
 first
  | (refine Ch.op rfl rfl (by decide) (ok_add rfl (vl rfl) (vl rfl) ?hin) ?_; case hin => unfold InI; omega)
  | refine Ch.op rfl rfl (by decide) (ok_int rfl (vl rfl) (vl rfl) rfl) ?_
 refine Ch.op rfl rfl (by decide) (ok_assign rfl (vl rfl)) ?_
 refine Ch.nil ?_
 refine Fin.go ?_
 refine Tr.weak [(0, _), (8, _), (9, _), (10, _), (11, _), (12, _)] ⟨⟨_, rfl, Pr.le_refl _⟩, ⟨_, rfl, Pr.le_refl _⟩, ⟨_, rfl, Pr.le_refl _⟩, ⟨_, rfl, Pr.le_refl _⟩, ⟨_, rfl, Pr.le_refl _⟩, ⟨_, rfl, Pr.le_refl _⟩, trivial⟩ ?_
 refine Tr.seq ?_
 refine Tr.seq ?_
 refine Tr.reg0 ?_
 refine Ch.op rfl rfl (by decide) (ok_move rfl (vl rfl)) ?_
 refine Ch.op rfl rfl (by decide) (ok_int rfl (vl rfl) (vl rfl) rfl) ?_
 refine Ch.nil ?_
 refine Fin.go ?_
 refine Tr.cond rfl (fun h1 => ?_) (fun h1 => ?_)
 ·
  have q1 := Nrm.nrm h1
  refine Tr.seq ?_
  refine Tr.seq ?_
  refine Tr.reg0 ?_
  refine Ch.op rfl rfl (by decide) (ok_move rfl (vl rfl)) ?_
  refine Ch.op rfl rfl (by decide) (ok_int rfl (vl rfl) (vl rfl) rfl) ?_
  refine Ch.nil ?_
  refine Fin.go ?_
  refine Tr.cond rfl (fun h2 => ?_) (fun h2 => ?_)
  ·
   have q2 := Nrm.nrm h2
   exfalso; omega
  ·
   have q2 := Nrm.nrm h2
   refine Tr.skip ?_
   refine Fin.go ?_
   refine Tr.reg0 ?_
   refine Ch.op rfl rfl (by decide) (ok_move rfl (vl rfl)) ?_
   refine Ch.op rfl rfl (by decide) (ok_move rfl (vl rfl)) ?_
   refine Ch.op rfl rfl (by decide) (ok_move rfl (vl rfl)) ?_
   refine Ch.op rfl rfl (by decide) (ok_move rfl (vl rfl)) ?_
   refine Ch.op rfl rfl (by decide) (ok_call rfl (w_medAsc (by assumption) (by omega) (by omega) (by omega) (by omega)) ⟨⟨_, rfl, Pr.le_refl _⟩, ⟨_, rfl, Pr.le_refl _⟩, ⟨_, rfl, Pr.le_refl _⟩, ⟨_, rfl, Pr.le_refl _⟩, ⟨_, rfl, le_any _⟩, trivial⟩) ?_
   refine Ch.op rfl rfl (by decide) (ok_assign rfl (vl rfl)) ?_
   refine Ch.nil ?_
   refine Fin.go ?_
   refine Tr.weak [(9, _), (11, _)] ⟨⟨_, rfl, Pr.le_refl _⟩, ⟨_, rfl, Pr.le_refl _⟩, trivial⟩ ?_
   refine Tr.seq ?_
   refine Tr.reg0 ?_
   refine Ch.op rfl rfl (by decide) (ok_rd 0 rfl (rd_load1 rfl one3 (vl rfl) rfl)) ?_
   refine Ch.nil ?_
   refine Fin.go ?_
   refine Tr.drop 0 ?_
   refine Tr.block ?_
   refine Tr.seq ?_
   refine Tr.reg0 ?_
   refine Ch.op rfl rfl (by decide) (ok_int rfl (vl rfl) (vl rfl) rfl) ?_
   refine Ch.op rfl rfl (by decide) (ok_assign rfl (vl rfl)) ?_
   refine Ch.nil ?_
   refine Fin.go ?_
   refine Tr.cond rfl (fun h3 => ?_) (fun h3 => ?_)
   ·
    have q3 := Nrm.nrm h3
    refine Tr.seq ?_
    refine Tr.reg0 ?_
    refine Ch.op rfl rfl (by decide) (ok_move rfl (vl rfl)) ?_
    refine Ch.op rfl rfl (by decide) (ok_assign rfl (vl rfl)) ?_
    refine Ch.op rfl rfl (by decide) (ok_assign rfl (vl rfl)) ?_
    refine Ch.nil ?_
    refine Fin.go ?_
    refine Tr.ret ?_
    refine Fin.block_ret ?_
    refine Fin.ret2 rfl (OutW.bse _ _) rfl ?_ rfl ?_
    · exact le_any _
    · first | exact Pr.le_refl _ | (refine int_eq ?_; simp_all; done) | (refine bool_eq ?_; simp_all; done) | (refine bool_eq ?_; simp_all; omega) | (refine int_eq ?_; omega)
   ·
    have q3 := Nrm.nrm h3
    exfalso; simp at h3
 ·
  have q1 := Nrm.nrm h1
  exfalso; omega
set_option maxRecDepth 20000 in
theorem w_partAsc {l : List Int} {a b : Int} (hl : Asc l) (h0 : 0 ≤ a) (hab : a < b) (hb : b ≤ l.length) (hs : l.length ≤ 1000000) : Fun Tryz.prog 130 [ints l, int a, int b] (bool true) := by
 refine Fun.of Tryz.func130 rfl rfl (by exact Nat.le_of_ble_eq_true rfl) fun M0 w0 => ?_
 refine Tr.seq ?_
 refine Tr.reg0 ?_
 refine Ch.op rfl rfl (by decide) (ok_assign rfl (vl rfl)) ?_
 refine Ch.nil ?_
 refine Fin.go ?_
 refine Tr.seq ?_
 refine Tr.reg0 ?_
 refine Ch.op rfl rfl (by decide) (ok_move rfl (vl rfl)) ?_
 first
  | (refine Ch.op rfl rfl (by decide) (ok_add rfl (vl rfl) (vl rfl) ?hin) ?_; case hin => unfold InI; omega)
  | refine Ch.op rfl rfl (by decide) (ok_int rfl (vl rfl) (vl rfl) rfl) ?_
 refine Ch.op rfl rfl (by decide) (ok_assign rfl (vl rfl)) ?_
 refine Ch.nil ?_
 refine Fin.go ?_
 refine Tr.seq ?_
 refine Tr.seq ?_
 refine Tr.reg0 ?_
 refine Ch.op rfl rfl (by decide) (ok_assign rfl (vl rfl)) ?_
 refine Ch.nil ?_
 refine Fin.go ?_
 refine Tr.block ?_
 refine Tr.loopw [(0, _), (1, _), (2, _)] ⟨⟨_, rfl, Pr.le_refl _⟩, ⟨_, rfl, Pr.le_refl _⟩, ⟨_, rfl, Pr.le_refl _⟩, trivial⟩ (fun (u : Unit) => [(7, int (a + 1)), (8, int 0)]) (fun (u : Unit) => True) (fun (u : Unit) => 0) () (trivial) ⟨⟨_, rfl, Pr.le_refl _⟩, ⟨_, rfl, Pr.le_refl _⟩, trivial⟩ ?_
 rintro u _
 refine Tr.seq ?_
 refine Tr.seq ?_
 refine Tr.reg0 ?_
 refine Ch.op rfl rfl (by decide) (ok_move rfl (vl rfl)) ?_
 refine Ch.op rfl rfl (by decide) (ok_int rfl (vl rfl) (vl rfl) rfl) ?_
 refine Ch.nil ?_
 refine Fin.go ?_
 refine Tr.cond rfl (fun h1 => ?_) (fun h1 => ?_)
 ·
  have q1 := Nrm.nrm h1
  have := h1
  refine Tr.skip ?_
  refine Fin.go ?_
  refine Tr.seq ?_
  refine Tr.block ?_
  refine Tr.seq ?_
  refine Tr.block ?_
  refine Tr.loopw [(0, _), (1, _), (2, _), (8, _)] ⟨⟨_, rfl, Pr.le_refl _⟩, ⟨_, rfl, Pr.le_refl _⟩, ⟨_, rfl, Pr.le_refl _⟩, ⟨_, rfl, Pr.le_refl _⟩, trivial⟩ (fun i : Int => [(7, int i)]) (fun i : Int => a < i ∧ i ≤ b) (fun i : Int => (b - i).toNat) (a + 1) (⟨by omega, by omega⟩) ⟨⟨_, rfl, Pr.le_refl _⟩, trivial⟩ ?_
  rintro i ⟨hi1, hi2⟩
  refine Tr.seq ?_
  refine Tr.seq ?_
  refine Tr.reg1 mixed (by kernel_rfl) ?_
  refine Ch.op rfl rfl (by decide) (ok_move rfl (vl rfl)) ?_
  refine Ch.op rfl rfl (by decide) (ok_move rfl (vl rfl)) ?_
  refine Ch.op rfl rfl (by decide) (ok_int rfl (vl rfl) (vl rfl) rfl) ?_
  refine Ch.op rfl rfl (by decide) (ok_move rfl (vl rfl)) ?_
  refine Ch.cases 20 rfl (fun h2 => ?_) (fun h2 => ?_)
  ·
   have q2 := Nrm.nrm h2
   obtain ⟨x, hx⟩ := at_ (l := l) (k := i.toNat) (by omega)
   obtain ⟨p, hp⟩ := at_ (l := l) (k := (i - 1).toNat) (by omega)
   have hpx := asc_at hl (by omega) hp hx
   refine Ch.yes rfl rfl rfl h2 rfl (by decide) (ok_move rfl (vl rfl)) ?_
   refine Ch.yes rfl rfl rfl h2 rfl (by decide) (ok_move rfl (vl rfl)) ?_
   refine Ch.yes rfl rfl rfl h2 rfl (by decide) (ok_indexAddr rfl Tryz.underlying22 sz3 (vl rfl) (vl rfl) (by omega) (at_int hx)) ?_
   refine Ch.yes rfl rfl rfl h2 rfl (by decide) (ok_load1 rfl one3 (vl rfl)) ?_
   refine Ch.yes rfl rfl rfl h2 rfl (by decide) (ok_move rfl (vl rfl)) ?_
   refine Ch.yes rfl rfl rfl h2 rfl (by decide) (ok_move rfl (vl rfl)) ?_
   first
    | (refine Ch.yes rfl rfl rfl h2 rfl (by decide) (ok_sub rfl (vl rfl) (vl rfl) ?hin) ?_; case hin => unfold InI; omega)
    | refine Ch.yes rfl rfl rfl h2 rfl (by decide) (ok_int rfl (vl rfl) (vl rfl) rfl) ?_
   refine Ch.yes rfl rfl rfl h2 rfl (by decide) (ok_indexAddr rfl Tryz.underlying22 sz3 (vl rfl) (vl rfl) (by omega) (pred_int (by omega) hp)) ?_
   refine Ch.yes rfl rfl rfl h2 rfl (by decide) (ok_load1 rfl one3 (vl rfl)) ?_
   refine Ch.yes rfl rfl rfl h2 rfl (by decide) (ok_call rfl (w_lessI) ⟨⟨_, rfl, Pr.le_refl _⟩, ⟨_, rfl, Pr.le_refl _⟩, trivial⟩) ?_
   refine Ch.yes rfl rfl rfl h2 rfl (by decide) (ok_not rfl (vl rfl)) ?_
   refine Ch.op rfl rfl (by decide) (ok_pick_t rfl (vl rfl) h2 (vl rfl)) ?_
   refine Ch.nil ?_
   refine Fin.go ?_
   refine Tr.weak [(0, _), (1, _), (2, _), (7, _), (8, _), (32, _)] ⟨⟨_, rfl, Pr.le_refl _⟩, ⟨_, rfl, Pr.le_refl _⟩, ⟨_, rfl, Pr.le_refl _⟩, ⟨_, rfl, Pr.le_refl _⟩, ⟨_, rfl, Pr.le_refl _⟩, ⟨_, rfl, Pr.le_refl _⟩, trivial⟩ ?_
   refine Tr.cond rfl (fun h3 => ?_) (fun h3 => ?_)
   ·
    have q3 := Nrm.nrm h3
    have := h3
    refine Tr.skip ?_
    refine Fin.go ?_
    refine Tr.block ?_
    refine Tr.reg0 ?_
    refine Ch.op rfl rfl (by decide) (ok_move rfl (vl rfl)) ?_
    first
     | (refine Ch.op rfl rfl (by decide) (ok_add rfl (vl rfl) (vl rfl) ?hin) ?_; case hin => unfold InI; omega)
     | refine Ch.op rfl rfl (by decide) (ok_int rfl (vl rfl) (vl rfl) rfl) ?_
    refine Ch.op rfl rfl (by decide) (ok_assign rfl (vl rfl)) ?_
    refine Ch.nil ?_
    refine Fin.block ?_
    exact Fin.fam_same (i + 1) ⟨⟨by omega, by omega⟩, by omega⟩ ⟨⟨_, rfl, Pr.le_refl _⟩, ⟨_, rfl, Pr.le_refl _⟩, ⟨_, rfl, Pr.le_refl _⟩, ⟨_, rfl, Pr.le_refl _⟩, ⟨_, rfl, Pr.le_refl _⟩, trivial⟩
   ·
    have q3 := Nrm.nrm h3
    have := h3
    have hib : i = b := by first | omega | (simp at h3; omega)
    refine Tr.exit ?_
    refine Fin.then_exit ?_
    refine Fin.then_exit ?_
    refine Fin.block_here ?_
    refine Fin.go ?_
    refine Tr.seq ?_
    refine Tr.seq ?_
    refine Tr.reg0 ?_
    refine Ch.op rfl rfl (by decide) (ok_move rfl (vl rfl)) ?_
    refine Ch.op rfl rfl (by decide) (ok_move rfl (vl rfl)) ?_
    refine Ch.op rfl rfl (by decide) (ok_int rfl (vl rfl) (vl rfl) rfl) ?_
    refine Ch.nil ?_
    refine Fin.go ?_
    refine Tr.cond rfl (fun h4 => ?_) (fun h4 => ?_)
    ·
     have q4 := Nrm.nrm h4
     refine Tr.seq ?_
     refine Tr.reg0 ?_
     refine Ch.op rfl rfl (by decide) (ok_assign rfl (vl rfl)) ?_
     refine Ch.nil ?_
     refine Fin.go ?_
     refine Tr.ret ?_
     refine Fin.then_ret ?_
     refine Fin.block_ret ?_
     refine Fin.then_ret ?_
     refine Fin.then_ret ?_
     refine Fin.block_ret ?_
     refine Fin.then_ret ?_
     refine Fin.ret1 rfl (OutW.bse _ _) rfl ?_
     · first | exact Pr.le_refl _ | (refine int_eq ?_; simp_all; done) | (refine bool_eq ?_; simp_all; done) | (refine bool_eq ?_; simp_all; omega) | (refine int_eq ?_; omega)
    ·
     have q4 := Nrm.nrm h4
     exfalso; omega
  ·
   have q2 := Nrm.nrm h2
   refine Ch.no rfl rfl rfl (ne_true h2) rfl (by decide) ?_
   refine Ch.no rfl rfl rfl (ne_true h2) rfl (by decide) ?_
   refine Ch.no rfl rfl rfl (ne_true h2) rfl (by decide) ?_
   refine Ch.no rfl rfl rfl (ne_true h2) rfl (by decide) ?_
   refine Ch.no rfl rfl rfl (ne_true h2) rfl (by decide) ?_
   refine Ch.no rfl rfl rfl (ne_true h2) rfl (by decide) ?_
   refine Ch.no rfl rfl rfl (ne_true h2) rfl (by decide) ?_
   refine Ch.no rfl rfl rfl (ne_true h2) rfl (by decide) ?_
   refine Ch.no rfl rfl rfl (ne_true h2) rfl (by decide) ?_
   refine Ch.no rfl rfl rfl (ne_true h2) rfl (by decide) ?_
   refine Ch.no rfl rfl rfl (ne_true h2) rfl (by decide) ?_
   refine Ch.op rfl rfl (by decide) (ok_pick_f rfl (vl rfl) h2 (vl rfl)) ?_
   refine Ch.nil ?_
   refine Fin.go ?_
   refine Tr.weak [(0, _), (1, _), (2, _), (7, _), (8, _), (32, _)] ⟨⟨_, rfl, Pr.le_refl _⟩, ⟨_, rfl, Pr.le_refl _⟩, ⟨_, rfl, Pr.le_refl _⟩, ⟨_, rfl, Pr.le_refl _⟩, ⟨_, rfl, Pr.le_refl _⟩, ⟨_, rfl, Pr.le_refl _⟩, trivial⟩ ?_
   refine Tr.cond rfl (fun h => nomatch h) (fun _ => ?_)
   refine Tr.exit ?_
   refine Fin.then_exit ?_
   refine Fin.then_exit ?_
   refine Fin.block_here ?_
   refine Fin.go ?_
   refine Tr.seq ?_
   refine Tr.seq ?_
   refine Tr.reg0 ?_
   refine Ch.op rfl rfl (by decide) (ok_move rfl (vl rfl)) ?_
   refine Ch.op rfl rfl (by decide) (ok_move rfl (vl rfl)) ?_
   refine Ch.op rfl rfl (by decide) (ok_int rfl (vl rfl) (vl rfl) rfl) ?_
   refine Ch.nil ?_
   refine Fin.go ?_
   refine Tr.cond rfl (fun h5 => ?_) (fun h5 => ?_)
   ·
    have q5 := Nrm.nrm h5
    refine Tr.seq ?_
    refine Tr.reg0 ?_
    refine Ch.op rfl rfl (by decide) (ok_assign rfl (vl rfl)) ?_
    refine Ch.nil ?_
    refine Fin.go ?_
    refine Tr.ret ?_
    refine Fin.then_ret ?_
    refine Fin.block_ret ?_
    refine Fin.then_ret ?_
    refine Fin.then_ret ?_
    refine Fin.block_ret ?_
    refine Fin.then_ret ?_
    refine Fin.ret1 rfl (OutW.bse _ _) rfl ?_
    · first | exact Pr.le_refl _ | (refine int_eq ?_; simp_all; done) | (refine bool_eq ?_; simp_all; done) | (refine bool_eq ?_; simp_all; omega) | (refine int_eq ?_; omega)
   ·
    have q5 := Nrm.nrm h5
    exfalso; omega
 ·
  have q1 := Nrm.nrm h1
  have := h1
  exfalso; omega
set_option maxRecDepth 20000 in
theorem w_pdqAsc24 {l : List Int} {a b : Int} (hl : Asc l) (h0 : 0 ≤ a) (hb : b ≤ l.length) (hab : 13 ≤ b - a) (hs : b - a < 50) (hs2 : l.length ≤ 1000000) : Fun Tryz.prog 87 [ints l, int a, int b, ex fun k : Int => fact (¬ k = 0) (int k)] (unit_) := by
 refine Fun.of Tryz.func87 rfl rfl (by exact Nat.le_of_ble_eq_true rfl) fun M0 w0 => ?_
 refine Tr.ex 3 rfl (fun lim => Tr.fact 3 rfl fun hlim => ?_)
 refine Tr.seq ?_
 refine Tr.reg0 ?_
 refine Ch.op rfl rfl (by decide) (ok_assign rfl (vl rfl)) ?_
 refine Ch.nil ?_
 refine Fin.go ?_
 refine Tr.seq ?_
 refine Tr.reg0 ?_
 refine Ch.op rfl rfl (by decide) (ok_assign rfl (vl rfl)) ?_
 refine Ch.nil ?_
 refine Fin.go ?_
 refine Tr.block ?_
 refine Tr.loopw [(0, _)] ⟨⟨_, rfl, Pr.le_refl _⟩, trivial⟩ (fun (u : Unit) => [(1, int a), (2, int b), (3, int lim), (8, bool true), (9, bool true)]) (fun (u : Unit) => True) (fun (u : Unit) => 0) () (trivial) ⟨⟨_, rfl, Pr.le_refl _⟩, ⟨_, rfl, Pr.le_refl _⟩, ⟨_, rfl, Pr.le_refl _⟩, ⟨_, rfl, Pr.le_refl _⟩, ⟨_, rfl, Pr.le_refl _⟩, trivial⟩ ?_
 rintro u _
 refine Tr.block ?_
 refine Tr.seq ?_
 refine Tr.reg0 ?_
 refine Ch.op rfl rfl (by decide) (ok_move rfl (vl rfl)) ?_
 refine Ch.op rfl rfl (by decide) (ok_move rfl (vl rfl)) ?_
 first
  | (refine Ch.op rfl rfl (by decide) (ok_sub rfl (vl rfl) (vl rfl) ?hin) ?_; case hin => unfold InI; omega)
  | refine Ch.op rfl rfl (by decide) (ok_int rfl (vl rfl) (vl rfl) rfl) ?_
 refine Ch.op rfl rfl (by decide) (ok_assign rfl (vl rfl)) ?_
 refine Ch.nil ?_
 refine Fin.go ?_
 refine Tr.seq ?_
 refine Tr.seq ?_
 refine Tr.reg0 ?_
 refine Ch.op rfl rfl (by decide) (ok_move rfl (vl rfl)) ?_
 refine Ch.op rfl rfl (by decide) (ok_int rfl (vl rfl) (vl rfl) rfl) ?_
 refine Ch.nil ?_
 refine Fin.go ?_
 refine Tr.cond rfl (fun h1 => ?_) (fun h1 => ?_)
 ·
  have q1 := Nrm.nrm h1
  exfalso; omega
 ·
  have q1 := Nrm.nrm h1
  refine Tr.skip ?_
  refine Fin.go ?_
  refine Tr.seq ?_
  refine Tr.seq ?_
  refine Tr.reg0 ?_
  refine Ch.op rfl rfl (by decide) (ok_move rfl (vl rfl)) ?_
  refine Ch.op rfl rfl (by decide) (ok_int rfl (vl rfl) (vl rfl) rfl) ?_
  refine Ch.nil ?_
  refine Fin.go ?_
  refine Tr.weak [(0, _), (1, _), (2, _), (3, _), (8, _), (9, _), (10, _), (29, _)] ⟨⟨_, rfl, Pr.le_refl _⟩, ⟨_, rfl, Pr.le_refl _⟩, ⟨_, rfl, Pr.le_refl _⟩, ⟨_, rfl, Pr.le_refl _⟩, ⟨_, rfl, Pr.le_refl _⟩, ⟨_, rfl, Pr.le_refl _⟩, ⟨_, rfl, Pr.le_refl _⟩, ⟨_, rfl, Pr.le_refl _⟩, trivial⟩ ?_
  refine Tr.cond rfl (fun h2 => ?_) (fun h2 => ?_)
  ·
   have q2 := Nrm.nrm h2
   exfalso; omega
  ·
   have q2 := Nrm.nrm h2
   refine Tr.skip ?_
   refine Fin.go ?_
   refine Tr.seq ?_
   refine Tr.seq ?_
   refine Tr.reg0 ?_
   refine Ch.op rfl rfl (by decide) (ok_move rfl (vl rfl)) ?_
   refine Ch.op rfl rfl (by decide) (ok_not rfl (vl rfl)) ?_
   refine Ch.nil ?_
   refine Fin.go ?_
   refine Tr.cond rfl (fun h3 => ?_) (fun h3 => ?_)
   ·
    have q3 := Nrm.nrm h3
    exfalso; simp at h3
   ·
    have q3 := Nrm.nrm h3
    refine Tr.skip ?_
    refine Fin.go ?_
    refine Tr.seq ?_
    refine Tr.reg0 ?_
    refine Ch.op rfl rfl (by decide) (ok_move rfl (vl rfl)) ?_
    refine Ch.op rfl rfl (by decide) (ok_move rfl (vl rfl)) ?_
    refine Ch.op rfl rfl (by decide) (ok_move rfl (vl rfl)) ?_
    refine Ch.op rfl rfl (by decide) (ok_call rfl (w_pivAsc (by assumption) (by omega) (by omega) (by omega) (by omega) (by omega)) ⟨⟨_, rfl, Pr.le_refl _⟩, ⟨_, rfl, Pr.le_refl _⟩, ⟨_, rfl, Pr.le_refl _⟩, trivial⟩) ?_
    refine Ch.op rfl rfl (by decide) (ok_move rfl (vl rfl)) ?_
    refine Ch.op rfl rfl (by decide) (ok_extract rfl (vl rfl) rfl) ?_
    refine Ch.op rfl rfl (by decide) (ok_extract rfl (vl rfl) rfl) ?_
    refine Ch.op rfl rfl (by decide) (ok_assign rfl (vl rfl)) ?_
    refine Ch.op rfl rfl (by decide) (ok_assign rfl (vl rfl)) ?_
    refine Ch.nil ?_
    refine Fin.go ?_
    refine Tr.weak [(0, _), (1, _), (2, _), (3, _), (8, _), (9, _), (10, _), (11, _), (12, _)] ⟨⟨_, rfl, Pr.le_refl _⟩, ⟨_, rfl, Pr.le_refl _⟩, ⟨_, rfl, Pr.le_refl _⟩, ⟨_, rfl, Pr.le_refl _⟩, ⟨_, rfl, Pr.le_refl _⟩, ⟨_, rfl, Pr.le_refl _⟩, ⟨_, rfl, Pr.le_refl _⟩, ⟨_, rfl, Pr.le_refl _⟩, ⟨_, rfl, Pr.le_refl _⟩, trivial⟩ ?_
    refine Tr.seq ?_
    refine Tr.seq ?_
    refine Tr.reg0 ?_
    refine Ch.op rfl rfl (by decide) (ok_move rfl (vl rfl)) ?_
    refine Ch.op rfl rfl (by decide) (ok_int rfl (vl rfl) (vl rfl) rfl) ?_
    refine Ch.nil ?_
    refine Fin.go ?_
    refine Tr.cond rfl (fun h4 => ?_) (fun h4 => ?_)
    ·
     have q4 := Nrm.nrm h4
     exfalso; simp at h4
    ·
     have q4 := Nrm.nrm h4
     refine Tr.skip ?_
     refine Fin.go ?_
     refine Tr.seq ?_
     refine Tr.seq ?_
     refine Tr.reg0 ?_
     refine Ch.op rfl rfl (by decide) (ok_move rfl (vl rfl)) ?_
     refine Ch.op rfl rfl (by decide) (ok_move rfl (vl rfl)) ?_
     refine Ch.cases 62 rfl (fun h5 => ?_) (fun h5 => ?_)
     ·
      have q5 := Nrm.nrm h5
      refine Ch.yes rfl rfl rfl h5 rfl (by decide) (ok_move rfl (vl rfl)) ?_
      refine Ch.op rfl rfl (by decide) (ok_pick_t rfl (vl rfl) h5 (vl rfl)) ?_
      refine Ch.op rfl rfl (by decide) (ok_move rfl (vl rfl)) ?_
      refine Ch.cases 65 rfl (fun h6 => ?_) (fun h6 => ?_)
      ·
       have q6 := Nrm.nrm h6
       refine Ch.yes rfl rfl rfl h6 rfl (by decide) (ok_move rfl (vl rfl)) ?_
       refine Ch.yes rfl rfl rfl h6 rfl (by decide) (ok_int rfl (vl rfl) (vl rfl) rfl) ?_
       refine Ch.op rfl rfl (by decide) (ok_pick_t rfl (vl rfl) h6 (vl rfl)) ?_
       refine Ch.nil ?_
       refine Fin.go ?_
       refine Tr.weak [(0, _), (1, _), (2, _), (3, _), (8, _), (9, _), (10, _), (11, _), (68, _)] ⟨⟨_, rfl, Pr.le_refl _⟩, ⟨_, rfl, Pr.le_refl _⟩, ⟨_, rfl, Pr.le_refl _⟩, ⟨_, rfl, Pr.le_refl _⟩, ⟨_, rfl, Pr.le_refl _⟩, ⟨_, rfl, Pr.le_refl _⟩, ⟨_, rfl, Pr.le_refl _⟩, ⟨_, rfl, Pr.le_refl _⟩, ⟨_, rfl, Pr.le_refl _⟩, trivial⟩ ?_
       refine Tr.cond rfl (fun h7 => ?_) (fun h7 => ?_)
       ·
        have q7 := Nrm.nrm h7
        refine Tr.seq ?_
        refine Tr.reg0 ?_
        refine Ch.op rfl rfl (by decide) (ok_move rfl (vl rfl)) ?_
        refine Ch.op rfl rfl (by decide) (ok_move rfl (vl rfl)) ?_
        refine Ch.op rfl rfl (by decide) (ok_move rfl (vl rfl)) ?_
        refine Ch.op rfl rfl (by decide) (ok_call rfl (w_partAsc (by assumption) (by omega) (by omega) (by omega) (by omega)) ⟨⟨_, rfl, Pr.le_refl _⟩, ⟨_, rfl, Pr.le_refl _⟩, ⟨_, rfl, Pr.le_refl _⟩, trivial⟩) ?_
        refine Ch.nil ?_
        refine Fin.go ?_
        refine Tr.cond rfl (fun h8 => ?_) (fun h8 => ?_)
        ·
         have q8 := Nrm.nrm h8
         refine Tr.ret ?_
         refine Fin.then_ret ?_
         refine Fin.block_ret ?_
         refine Fin.then_ret ?_
         refine Fin.block_ret ?_
         exact Fin.ret0r rfl
        ·
         have q8 := Nrm.nrm h8
         exfalso; simp at h8
       ·
        have q7 := Nrm.nrm h7
        exfalso; simp at h7
      ·
       have q6 := Nrm.nrm h6
       exfalso; simp at h6
     ·
      have q5 := Nrm.nrm h5
      exfalso; simp at h5
set_option maxRecDepth 20000 in
theorem w_SortAsc24 {l : List Int} (hl : Asc l) (hs : 13 ≤ l.length) (hs2 : l.length < 50) : Fun Tryz.prog 61 [ints l] (unit_) := by
 refine Fun.of Tryz.func61 rfl rfl (by exact Nat.le_of_ble_eq_true rfl) fun M0 w0 => ?_
 have hw : IntKind.u64.wrap ((l.length : Nat) : Int) = l.length := IntWalk.u64_in _ ⟨by omega, by omega⟩
 refine Tr.seq ?_
 refine Tr.reg0 ?_
 refine Ch.op rfl rfl (by decide) (ok_move rfl (vl rfl)) ?_
 first
  | refine Ch.op rfl rfl (by decide) (ok_lenm rfl Tryz.underlying22 (vl rfl)) ?_
  | refine Ch.op rfl rfl (by decide) (ok_len rfl Tryz.underlying22 (vl rfl)) ?_
 refine Ch.op rfl rfl (by decide) (ok_assign rfl (vl rfl)) ?_
 refine Ch.nil ?_
 refine Fin.go ?_
 refine Tr.reg0 ?_
 refine Ch.op rfl rfl (by decide) (ok_move rfl (vl rfl)) ?_
 refine Ch.op rfl rfl (by decide) (ok_move rfl (vl rfl)) ?_
 refine Ch.op rfl rfl (by decide) (ok_move rfl (vl rfl)) ?_
 first
  | refine Ch.op rfl rfl (by decide) (ok_convI rfl Tryz.underlying3 Tryz.underlying105 (vl rfl) (by unfold InI; omega)) ?_
  | refine Ch.op rfl rfl (by decide) (ok_conv rfl Tryz.underlying3 Tryz.underlying105 (vl rfl)) ?_
 refine Ch.op rfl rfl (by decide) (ok_call rfl (w_BLenp (by omega) (by omega)) ⟨⟨_, rfl, Pr.le_refl _⟩, trivial⟩) ?_
 refine Ch.op rfl rfl (by decide) (ok_call rfl (w_pdqAsc24 (l := l) (a := 0) (b := (l.length : Int)) hl (by omega) (by omega) (by omega) (by omega) (by omega)) ⟨⟨_, rfl, Pr.le_refl _⟩, ⟨_, rfl, Pr.le_refl _⟩, ⟨_, rfl, Pr.le_refl _⟩, ⟨_, rfl, Pr.le_refl _⟩, trivial⟩) ?_
 refine Ch.nil ?_
 exact Fin.ret0 rfl
theorem w_SortAll {l : List Int} (hl : Asc l) (hs : l.length < 50) : Fun Tryz.prog 61 [ints l] unit_ := by
  by_cases h : l.length ≤ 12
  · exact w_SortAsc hl h
  · exact w_SortAsc24 hl (by omega) hs

set_option maxRecDepth 20000 in
theorem w_indices48 {l : List Fnd} {n : Int} {own : List Int} (ha : Asc own) (hs : own.length < 50) : Fun Tryz.prog 35 [fnds l, entP n own] (tup [ints own, bool (decide (InR own l.length))]) := by
 refine Fun.of Tryz.func35 rfl rfl (by exact Nat.le_of_ble_eq_true rfl) fun M0 w0 => ?_
 refine Tr.lenm 0 rfl fun hlm_0 => ?_
 refine Tr.seq ?_
 refine Tr.reg0 ?_
 refine Ch.op rfl rfl (by decide) (ok_box rfl (VL.le (vl rfl) (agg_cellsP _))) ?_
 refine Ch.op rfl rfl (by decide) (ok_assign rfl (vl rfl)) ?_
 refine Ch.op rfl rfl (by decide) (ok_assign rfl (vl rfl)) ?_
 refine Ch.nil ?_
 refine Fin.go ?_
 refine Tr.seq ?_
 refine Tr.reg0 ?_
 refine Ch.op rfl rfl (by decide) (ok_fieldAddr rfl fo35_3 (vl rfl) rfl) ?_
 refine Ch.op rfl rfl (by decide) (ok_load1 rfl one22 (vl rfl)) ?_
 refine Ch.op rfl rfl (by decide) (ok_call rfl (w_CloneP (by omega)) ⟨⟨_, rfl, Pr.le_refl _⟩, trivial⟩) ?_
 refine Ch.op rfl rfl (by decide) (ok_assign rfl (vl rfl)) ?_
 refine Ch.nil ?_
 refine Fin.go ?_
 refine Tr.seq ?_
 refine Tr.reg0 ?_
 refine Ch.op rfl rfl (by decide) (ok_move rfl (vl rfl)) ?_
 refine Ch.op rfl rfl (by decide) (ok_call rfl (w_SortAll (by assumption) (by omega)) ⟨⟨_, rfl, Pr.le_refl _⟩, trivial⟩) ?_
 refine Ch.nil ?_
 refine Fin.go ?_
 refine Tr.seq ?_
 refine Tr.reg0 ?_
 refine Ch.op rfl rfl (by decide) (ok_move rfl (vl rfl)) ?_
 refine Ch.op rfl rfl (by decide) (ok_call rfl (w_CompAscI (by assumption) (by omega)) ⟨⟨_, rfl, Pr.le_refl _⟩, trivial⟩) ?_
 refine Ch.op rfl rfl (by decide) (ok_assign rfl (vl rfl)) ?_
 refine Ch.nil ?_
 refine Fin.go ?_
 refine Tr.seq ?_
 refine Tr.reg1 mixed (by kernel_rfl) ?_
 refine Ch.op rfl rfl (by decide) (ok_move rfl (vl rfl)) ?_
 refine Ch.op rfl rfl (by decide) (ok_move rfl (vl rfl)) ?_
 first
  | refine Ch.op rfl rfl (by decide) (ok_lenm rfl Tryz.underlying22 (vl rfl)) ?_
  | refine Ch.op rfl rfl (by decide) (ok_len rfl Tryz.underlying22 (vl rfl)) ?_
 refine Ch.op rfl rfl (by decide) (ok_int rfl (vl rfl) (vl rfl) rfl) ?_
 refine Ch.op rfl rfl (by decide) (ok_move rfl (vl rfl)) ?_
 refine Ch.cases 18 rfl (fun h1 => ?_) (fun h1 => ?_)
 ·
  have q1 := Nrm.nrm h1
  refine Ch.no rfl rfl rfl (ne_false h1) rfl (by decide) ?_
  refine Ch.no rfl rfl rfl (ne_false h1) rfl (by decide) ?_
  refine Ch.no rfl rfl rfl (ne_false h1) rfl (by decide) ?_
  refine Ch.no rfl rfl rfl (ne_false h1) rfl (by decide) ?_
  refine Ch.no rfl rfl rfl (ne_false h1) rfl (by decide) ?_
  refine Ch.un rfl rfl rfl rfl (by decide) ?_
  refine Ch.un rfl rfl rfl rfl (by decide) ?_
  refine Ch.un rfl rfl rfl rfl (by decide) ?_
  refine Ch.un rfl rfl rfl rfl (by decide) ?_
  refine Ch.un rfl rfl rfl rfl (by decide) ?_
  refine Ch.un rfl rfl rfl rfl (by decide) ?_
  refine Ch.un rfl rfl rfl rfl (by decide) ?_
  refine Ch.un rfl rfl rfl rfl (by decide) ?_
  refine Ch.un rfl rfl rfl rfl (by decide) ?_
  refine Ch.no rfl rfl rfl (ne_false h1) rfl (by decide) ?_
  refine Ch.op rfl rfl (by decide) (ok_pick_t rfl (vl rfl) h1 (vl rfl)) ?_
  refine Ch.op rfl rfl (by decide) (ok_assign rfl (vl rfl)) ?_
  refine Ch.op rfl rfl (by decide) (ok_assign rfl (vl rfl)) ?_
  refine Ch.nil ?_
  refine Fin.go ?_
  refine Tr.weak [(4, _), (5, _)] ⟨⟨_, rfl, Pr.le_refl _⟩, ⟨_, rfl, Pr.le_refl _⟩, trivial⟩ ?_
  refine Tr.ret ?_
  refine Fin.ret2 rfl (OutW.bse _ _) rfl ?_ rfl ?_
  · first | exact Pr.le_refl _ | (refine int_eq ?_; simp_all; done) | (refine bool_eq ?_; simp_all; done) | (refine bool_eq ?_; simp_all; omega) | (refine int_eq ?_; omega)
  · refine bool_eq ?_; symm; rw [decide_eq_true_eq]; intro i hi; have hn : own = [] := List.eq_nil_of_length_eq_zero (by omega); rw [hn] at hi; cases hi
 ·
  have q1 := Nrm.nrm h1
  have hpos : 0 < own.length := by omega
  obtain ⟨a, h0⟩ := at_ (l := own) (k := 0) hpos
  obtain ⟨z, hz⟩ := at_ (l := own) (k := own.length - 1) (by omega)
  have hiff := inR_iff ha (m := l.length) h0 hz
  refine Ch.yes rfl rfl rfl h1 rfl (by decide) (ok_move rfl (vl rfl)) ?_
  refine Ch.yes rfl rfl rfl h1 rfl (by decide) (ok_indexAddr rfl Tryz.underlying22 sz3 (vl rfl) (vl rfl) (by omega) (row_at (k := 0) h0)) ?_
  refine Ch.yes rfl rfl rfl h1 rfl (by decide) (ok_load1 rfl one3 (vl rfl)) ?_
  refine Ch.yes rfl rfl rfl h1 rfl (by decide) (ok_int rfl (vl rfl) (vl rfl) rfl) ?_
  refine Ch.yes rfl rfl rfl h1 rfl (by decide) (ok_move rfl (vl rfl)) ?_
  refine Ch.cases 23 rfl (fun h2 => ?_) (fun h2 => ?_)
  ·
   have q2 := Nrm.nrm h2
   refine Ch.yes rfl rfl rfl h2 rfl (by decide) (ok_move rfl (vl rfl)) ?_
   refine Ch.yes rfl rfl rfl h2 rfl (by decide) (ok_move rfl (vl rfl)) ?_
   first
    | refine Ch.yes rfl rfl rfl h2 rfl (by decide) (ok_lenm rfl Tryz.underlying22 (vl rfl)) ?_
    | refine Ch.yes rfl rfl rfl h2 rfl (by decide) (ok_len rfl Tryz.underlying22 (vl rfl)) ?_
   first
    | (refine Ch.yes rfl rfl rfl h2 rfl (by decide) (ok_sub rfl (vl rfl) (vl rfl) ?hin) ?_; case hin => unfold InI; omega)
    | refine Ch.yes rfl rfl rfl h2 rfl (by decide) (ok_int rfl (vl rfl) (vl rfl) rfl) ?_
   refine Ch.yes rfl rfl rfl h2 rfl (by decide) (ok_indexAddr rfl Tryz.underlying22 sz3 (vl rfl) (vl rfl) (by omega) (last_int hpos hz)) ?_
   refine Ch.yes rfl rfl rfl h2 rfl (by decide) (ok_load1 rfl one3 (vl rfl)) ?_
   refine Ch.yes rfl rfl rfl h2 rfl (by decide) (ok_move rfl (vl rfl)) ?_
   first
    | refine Ch.yes rfl rfl rfl h2 rfl (by decide) (ok_lenm rfl Tryz.underlying27 (vl rfl)) ?_
    | refine Ch.yes rfl rfl rfl h2 rfl (by decide) (ok_len rfl Tryz.underlying27 (vl rfl)) ?_
   refine Ch.yes rfl rfl rfl h2 rfl (by decide) (ok_int rfl (vl rfl) (vl rfl) rfl) ?_
   refine Ch.yes rfl rfl rfl h1 rfl (by decide) (ok_pick_t rfl (vl rfl) h2 (vl rfl)) ?_
   refine Ch.op rfl rfl (by decide) (ok_pick_f rfl (vl rfl) h1 (vl rfl)) ?_
   refine Ch.op rfl rfl (by decide) (ok_assign rfl (vl rfl)) ?_
   refine Ch.op rfl rfl (by decide) (ok_assign rfl (vl rfl)) ?_
   refine Ch.nil ?_
   refine Fin.go ?_
   refine Tr.weak [(4, _), (5, _)] ⟨⟨_, rfl, Pr.le_refl _⟩, ⟨_, rfl, Pr.le_refl _⟩, trivial⟩ ?_
   refine Tr.ret ?_
   refine Fin.ret2 rfl (OutW.bse _ _) rfl ?_ rfl ?_
   · first | exact Pr.le_refl _ | (refine int_eq ?_; simp_all; done) | (refine bool_eq ?_; simp_all; done) | (refine bool_eq ?_; simp_all; omega) | (refine int_eq ?_; omega)
   · refine bool_eq ?_; rw [decide_eq_decide, hiff]; omega
  ·
   have q2 := Nrm.nrm h2
   refine Ch.no rfl rfl rfl (ne_true h2) rfl (by decide) ?_
   refine Ch.no rfl rfl rfl (ne_true h2) rfl (by decide) ?_
   refine Ch.no rfl rfl rfl (ne_true h2) rfl (by decide) ?_
   refine Ch.no rfl rfl rfl (ne_true h2) rfl (by decide) ?_
   refine Ch.no rfl rfl rfl (ne_true h2) rfl (by decide) ?_
   refine Ch.no rfl rfl rfl (ne_true h2) rfl (by decide) ?_
   refine Ch.no rfl rfl rfl (ne_true h2) rfl (by decide) ?_
   refine Ch.no rfl rfl rfl (ne_true h2) rfl (by decide) ?_
   refine Ch.no rfl rfl rfl (ne_true h2) rfl (by decide) ?_
   refine Ch.yes rfl rfl rfl h1 rfl (by decide) (ok_pick_f rfl (vl rfl) h2 (vl rfl)) ?_
   refine Ch.op rfl rfl (by decide) (ok_pick_f rfl (vl rfl) h1 (vl rfl)) ?_
   refine Ch.op rfl rfl (by decide) (ok_assign rfl (vl rfl)) ?_
   refine Ch.op rfl rfl (by decide) (ok_assign rfl (vl rfl)) ?_
   refine Ch.nil ?_
   refine Fin.go ?_
   refine Tr.weak [(4, _), (5, _)] ⟨⟨_, rfl, Pr.le_refl _⟩, ⟨_, rfl, Pr.le_refl _⟩, trivial⟩ ?_
   refine Tr.ret ?_
   refine Fin.ret2 rfl (OutW.bse _ _) rfl ?_ rfl ?_
   · first | exact Pr.le_refl _ | (refine int_eq ?_; simp_all; done) | (refine bool_eq ?_; simp_all; done) | (refine bool_eq ?_; simp_all; omega) | (refine int_eq ?_; omega)
   · refine bool_eq ?_; symm; rw [decide_eq_false_iff_not, hiff]; omega
end Go.Proofs.YthmnoekgicggnaaGreat
namespace Cp
open Go Go.RowKit Go.Great

section
variable {P : Program} {n : Nat} {E : Env} {M0 : Av} {w0 : World} {S : Nat → Prop} {rs : List Res} {o : Oper} {g : Func} {M1 : Av} {w1 : World}
theorem Fin.opn {Q : Exit → Act → World → Prop} {x : Exit} (s j : Nat) {v : Value} {f : Value → Res} (g : Nat → Res) (hs : E.lookup s = some (andIs v (Cp.ex fun b => ptr b 0))) (hi : rs[j]? = some (f v)) (hf : ∀ b, f (.pointer (some ⟨b, 0, none⟩)) = g b)
    (k : ∀ b, Fin n ((s, ptr b 0) :: E) (Hp M0 w0 S (rs.set j (g b))) Q x) : Fin n E (Hp M0 w0 S rs) Q x := by
  intro a w hst
  obtain ⟨M, h1, h2, he, h4⟩ := hst
  obtain ⟨h5, b, h6⟩ := he s _ hs
  have hv : v = .pointer (some ⟨b, 0, none⟩) := by rw [← h5]; exact h6
  have hj : rs.set j (g b) = rs := by
    have hjl : j < rs.length := by rcases Nat.lt_or_ge j rs.length with h | h; exact h; rw [List.getElem?_eq_none h] at hi; cases hi
    rw [← hf b, ← hv]
    rw [List.getElem?_eq_getElem hjl] at hi
    simp at hi
    rw [← hi, List.set_getElem_self]
  refine k b a w ⟨M, h1, h2, ?_, by rw [hj]; exact h4⟩
  intro t q hq
  simp only [List.lookup] at hq
  by_cases ht : t = s
  · subst ht; simp at hq; subst hq; exact h6
  · rw [show (t == s) = false by simpa using ht] at hq; exact he t q hq
end
end Cp
namespace Go.Proofs.YthmnoekgicggnaaGreat
open Go Go.RowKit Cp

end Go.Proofs.YthmnoekgicggnaaGreat
