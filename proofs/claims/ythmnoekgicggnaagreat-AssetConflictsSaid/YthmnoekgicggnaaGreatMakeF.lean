/-
  What the functions named below compute, proved from their text; printed by a program of our own.
-/
import Derived.Test.YthmnoekgicggnaaGreatTypes
import Derived.Test.YthmnoekgicggnaaGreatSlices
import Derived.Test.YthmnoekgicggnaaGreatDice
import Derived.Test.YthmnoekgicggnaaGreatEqs
import Derived.Test.YthmnoekgicggnaaGreatCat
import Derived.Test.YthmnoekgicggnaaGreatCat2
import Derived.Test.YthmnoekgicggnaaGreatCat3
import Derived.Test.YthmnoekgicggnaaGreatCat5
import Derived.Test.YthmnoekgicggnaaGreatFindA
import Derived.Test.YthmnoekgicggnaaGreatFindB
import Derived.Test.YthmnoekgicggnaaGreatFindC
import Derived.Test.YthmnoekgicggnaaGreatFindD
namespace Go.Proofs.YthmnoekgicggnaaGreat
open Go Go.RowKit Cp

def word_ (s : DS) (l : List (List UInt8)) : List UInt8 := (l[(s.val l.length).toNat]?).getD []
theorem word_mem (s : DS) {l : List (List UInt8)} (h : l ≠ []) : word_ s l ∈ l := by
  have h0 : 1 ≤ (l.length : Int) := by
    have := List.length_pos_iff.2 h
    omega
  have := s.val_in h0
  unfold word_
  rw [List.getElem?_eq_getElem (by omega)]
  exact List.getElem_mem _
abbrev strs (l : List (List UInt8)) : Pr := slice 1 (l.map fun t => [str t])
/-- A finding as the dice make it. -/
structure GoodF (f : Fnd) : Prop where
  check : checkF f = true
  fits : f.fits
  day : 0 ≤ f.day ∧ f.day < 12
structure GoodFs (l : List Fnd) (m : Nat) : Prop where
  norm : NormP l
  fits : ∀ f ∈ l, f.fits
  len : l.length ≤ m
  day : ∀ f ∈ l, 0 ≤ f.day ∧ f.day < 12
theorem named_abc {t : List UInt8} (h : t ∈ [[97], [98], [99]]) : named t = true ∧ t.length ≤ maxLen := by
  simp only [List.mem_cons, List.not_mem_nil, or_false] at h
  rcases h with rfl | rfl | rfl <;> exact ⟨by decide, by decide⟩
theorem named_st {t : List UInt8} (h : t ∈ [[115], [116]]) : named t = true ∧ t.length ≤ maxLen := by
  simp only [List.mem_cons, List.not_mem_nil, or_false] at h
  rcases h with rfl | rfl <;> exact ⟨by decide, by decide⟩
theorem named_ab {t : List UInt8} (h : t ∈ [[97], [98]]) : named t = true ∧ t.length ≤ maxLen := by
  simp only [List.mem_cons, List.not_mem_nil, or_false] at h
  rcases h with rfl | rfl <;> exact ⟨by decide, by decide⟩
theorem good_mk {f : Fnd} (h1 : 1 ≤ f.src ∧ f.src ≤ 7) (h2 : named f.host = true) (h3 : 0 ≤ f.machine ∧ f.machine ≤ 3) (h4 : 0 ≤ f.day ∧ f.day < 12) (h5 : 1 ≤ f.conf ∧ f.conf ≤ 100) (h6 : named f.subj = true) (h7 : contentF f = true)
    (l1 : f.host.length ≤ maxLen) (l2 : f.subj.length ≤ maxLen) (l3 : f.text.length ≤ maxLen) : GoodF f := by
  refine ⟨?_, ⟨l1, l2, l3⟩, h4⟩
  unfold checkF whereF whenF
  rw [h2, h6, h7]
  simp; omega
theorem all_snocF {β : Type} {p : β → Prop} {l : List β} {x : β} (h : ∀ y ∈ l, p y) (hx : p x) : ∀ y ∈ l ++ [x], p y := by
  intro y hy
  rcases List.mem_append.1 hy with hy | hy
  · exact h y hy
  · rw [List.mem_singleton.1 hy]; exact hx
theorem good_fold {l : List Fnd} {m : Nat} (h : ∀ f ∈ l, GoodF f) (hm : l.length ≤ m ∧ l.length ≤ 400) : GoodFs (l.foldl putF []) m := by
  have hmem : ∀ f ∈ l.foldl putF [], f ∈ l := fun f hf => by rcases fold_mem l [] hf with h1 | h1; exact absurd h1 (by simp); exact h1
  have hlen := fold_len l []
  simp at hlen
  exact ⟨norm_ok (fun f hf => (h f hf).check) hm.2, fun f hf => (h f (hmem f hf)).fits, by omega, fun f hf => (h f (hmem f hf)).day⟩
def useL : List (Int × Int) := [(1, 0), (2, 0), (5, 1024), (14, 128)]
theorem useL_ok : ∀ u ∈ useL, strength u.1 u.2 > 0 := by decide

set_option maxRecDepth 20000 in
theorem w_DWord {b : Nat} {s : DS} {l : List (List UInt8)} (hl : l ≠ []) (hl2 : l.length ≤ 1000000000) : FunM Tryz.prog 55 [ptr b 0, strs l] (str (word_ s l)) (diceS b s) (fun _ => diceS b s.adv) := by
  refine FunM.of Tryz.func55 rfl rfl (by exact Nat.le_of_ble_eq_true rfl) fun M0 w0 S rs M1 w1 => ?_
  have hl0 : 1 ≤ (l.length : Int) := by have := List.length_pos_iff.2 hl; omega
  have hv := s.val_in hl0
  obtain ⟨x, hx⟩ := at_ (l := l) (k := (s.val l.length).toNat) (by omega)
  refine Tr.seq ?_
  refine Tr.reg0 ?_
  refine Ch.op rfl rfl (by decide) (ok_assign rfl (vl rfl)) ?_
  refine Ch.nil ?_
  refine Fin.go ?_
  refine Tr.seq ?_
  refine Tr.regT ?_
  refine TO.op rfl rfl (by decide) (ok_move rfl (vl rfl)) ?_
  refine TO.op rfl rfl (by decide) (ok_move rfl (vl rfl)) ?_
  refine TO.op rfl rfl (by decide) (ok_move rfl (vl rfl)) ?_
  first
    | refine TO.op rfl rfl (by decide) (ok_lenm rfl Tryz.underlying33 (vl rfl)) ?_
    | refine TO.op rfl rfl (by decide) (ok_len rfl Tryz.underlying33 (vl rfl)) ?_
  refine TO.efc 0 rfl rfl (by decide) (ef_callc rfl rfl (by decide) rfl (w_DNext (by omega) (by omega)) ⟨⟨_, rfl, Pr.le_refl _⟩, ⟨_, rfl, Pr.le_refl _⟩, trivial⟩) ?_
  refine TO.op rfl rfl (by decide) (ok_indexAddr rfl Tryz.underlying33 sz9 (vl rfl) (vl rfl) (by omega) (row_atI hx)) ?_
  refine TO.op rfl rfl (by decide) (ok_load1 rfl one9 (vl rfl)) ?_
  refine TO.op rfl rfl (by decide) (ok_assign rfl (vl rfl)) ?_
  refine TO.nil ?_
  refine Fin.go ?_
  refine Tr.ret ?_
  refine Fin.retY1 [] rfl (RVal.tmp rfl (Pr.le_refl _)) ?_ (fun _ _ _ _ => rfl)
  · refine str_eq ?_; unfold word_; rw [hx]; rfl
theorem e_DWord : Entry Tryz.prog 55 := ⟨_, Tryz.func55, rfl, rfl⟩
set_option maxRecDepth 20000 in
set_option maxHeartbeats 400000 in
theorem w_Finding {b : Nat} {s : DS}  : FunM Tryz.prog 32 [ptr b 0] (ex fun f : Fnd => fact (GoodF f) (agg (rowF f))) (diceS b s) (fun _ => diceEx 74 b) := by
  refine FunM.of Tryz.func32 rfl rfl (by exact Nat.le_of_ble_eq_true rfl) fun M0 w0 S rs M1 w1 => ?_
  refine Tr.seq ?_
  refine Tr.regT ?_
  refine TO.alloc rfl rfl (by decide) rfl z42 zo42 (fun b1 => ?_)
  refine TO.nil ?_
  refine Fin.go ?_
  refine Tr.seq ?_
  have f1 := s.val_in (n := 7) (by omega)
  have f2 := named_abc (word_mem (s.adv) (l := [[97], [98], [99]]) (by simp))
  have f3 := (s.adv.adv).of_mem (l := [0, 1, 2, 0, 3]) (by simp)
  have f4 := (s.adv.adv.adv).val_in (n := 12) (by omega)
  have f5 := (s.adv.adv.adv.adv).of_mem (l := [90, 50, 100, 1]) (by simp)
  have f6 := (s.adv.adv.adv.adv.adv).val_in (n := 8) (by omega)
  have f7 := named_st (word_mem (s.adv.adv.adv.adv.adv.adv) (l := [[115], [116]]) (by simp))
  
  refine Tr.regT ?_
  refine TO.op rfl rfl (by decide) (ok_move rfl (vl rfl)) ?_
  refine TO.efc 1 rfl rfl (by decide) (ef_callc rfl rfl (by decide) rfl (w_DNext (by omega) (by omega)) ⟨⟨_, rfl, Pr.le_refl _⟩, ⟨_, rfl, Pr.le_refl _⟩, trivial⟩) ?_
  first
    | (refine TO.op rfl rfl (by decide) (ok_add rfl (vl rfl) (vl rfl) ?hin) ?_; case hin => unfold InI; omega)
    | refine TO.op rfl rfl (by decide) (ok_int rfl (vl rfl) (vl rfl) rfl) ?_
  refine TO.op rfl rfl (by decide) (ok_move rfl (vl rfl)) ?_
  refine TO.op rfl rfl (by decide) (ok_buildSlice (xs := [.const (.string ⟨[97].toArray⟩), .const (.string ⟨[98].toArray⟩), .const (.string ⟨[99].toArray⟩)]) (rows := [[_], [_], [_]]) rfl rfl Tryz.underlying33 sz9 z9 rfl (by decide) ⟨⟨(by exact rfl), (VL.le (vl rfl) (one_cellsP _))⟩, ⟨⟨(by exact rfl), (VL.le (vl rfl) (one_cellsP _))⟩, ⟨⟨(by exact rfl), (VL.le (vl rfl) (one_cellsP _))⟩, trivial⟩⟩⟩ (by decide)) ?_
  refine TO.efc 1 rfl rfl (by decide) (ef_callc rfl rfl (by decide) rfl (w_DWord (l := [[97], [98], [99]]) (by simp) (by simp)) ⟨⟨_, rfl, Pr.le_refl _⟩, ⟨_, rfl, full_le _ _⟩, trivial⟩) ?_
  refine TO.op rfl rfl (by decide) (ok_move rfl (vl rfl)) ?_
  refine TO.op rfl rfl (by decide) (ok_buildSlice (xs := [.const (.int .i64 (0)), .const (.int .i64 (1)), .const (.int .i64 (2)), .const (.int .i64 (0)), .const (.int .i64 (3))]) (rows := [[_], [_], [_], [_], [_]]) rfl rfl Tryz.underlying22 sz3 z3 rfl (by decide) ⟨⟨(by exact rfl), (VL.le (vl rfl) (one_cellsP _))⟩, ⟨⟨(by exact rfl), (VL.le (vl rfl) (one_cellsP _))⟩, ⟨⟨(by exact rfl), (VL.le (vl rfl) (one_cellsP _))⟩, ⟨⟨(by exact rfl), (VL.le (vl rfl) (one_cellsP _))⟩, ⟨⟨(by exact rfl), (VL.le (vl rfl) (one_cellsP _))⟩, trivial⟩⟩⟩⟩⟩ (by decide)) ?_
  refine TO.efc 1 rfl rfl (by decide) (ef_callc rfl rfl (by decide) rfl (w_DOf (l := [0, 1, 2, 0, 3]) (by simp) (by simp)) ⟨⟨_, rfl, Pr.le_refl _⟩, ⟨_, rfl, full_le _ _⟩, trivial⟩) ?_
  refine TO.op rfl rfl (by decide) (ok_move rfl (vl rfl)) ?_
  refine TO.efc 1 rfl rfl (by decide) (ef_callc rfl rfl (by decide) rfl (w_DNext (by omega) (by omega)) ⟨⟨_, rfl, Pr.le_refl _⟩, ⟨_, rfl, Pr.le_refl _⟩, trivial⟩) ?_
  refine TO.op rfl rfl (by decide) (ok_move rfl (vl rfl)) ?_
  refine TO.op rfl rfl (by decide) (ok_buildSlice (xs := [.const (.int .i64 (90)), .const (.int .i64 (50)), .const (.int .i64 (100)), .const (.int .i64 (1))]) (rows := [[_], [_], [_], [_]]) rfl rfl Tryz.underlying22 sz3 z3 rfl (by decide) ⟨⟨(by exact rfl), (VL.le (vl rfl) (one_cellsP _))⟩, ⟨⟨(by exact rfl), (VL.le (vl rfl) (one_cellsP _))⟩, ⟨⟨(by exact rfl), (VL.le (vl rfl) (one_cellsP _))⟩, ⟨⟨(by exact rfl), (VL.le (vl rfl) (one_cellsP _))⟩, trivial⟩⟩⟩⟩ (by decide)) ?_
  refine TO.efc 1 rfl rfl (by decide) (ef_callc rfl rfl (by decide) rfl (w_DOf (l := [90, 50, 100, 1]) (by simp) (by simp)) ⟨⟨_, rfl, Pr.le_refl _⟩, ⟨_, rfl, full_le _ _⟩, trivial⟩) ?_
  refine TO.op rfl rfl (by decide) (ok_move rfl (vl rfl)) ?_
  refine TO.efc 1 rfl rfl (by decide) (ef_callc rfl rfl (by decide) rfl (w_DNext (by omega) (by omega)) ⟨⟨_, rfl, Pr.le_refl _⟩, ⟨_, rfl, Pr.le_refl _⟩, trivial⟩) ?_
  first
    | (refine TO.op rfl rfl (by decide) (ok_add rfl (vl rfl) (vl rfl) ?hin) ?_; case hin => unfold InI; omega)
    | refine TO.op rfl rfl (by decide) (ok_int rfl (vl rfl) (vl rfl) rfl) ?_
  refine TO.op rfl rfl (by decide) (ok_move rfl (vl rfl)) ?_
  refine TO.op rfl rfl (by decide) (ok_buildSlice (xs := [.const (.string ⟨[115].toArray⟩), .const (.string ⟨[116].toArray⟩)]) (rows := [[_], [_]]) rfl rfl Tryz.underlying33 sz9 z9 rfl (by decide) ⟨⟨(by exact rfl), (VL.le (vl rfl) (one_cellsP _))⟩, ⟨⟨(by exact rfl), (VL.le (vl rfl) (one_cellsP _))⟩, trivial⟩⟩ (by decide)) ?_
  refine TO.efc 1 rfl rfl (by decide) (ef_callc rfl rfl (by decide) rfl (w_DWord (l := [[115], [116]]) (by simp) (by simp)) ⟨⟨_, rfl, Pr.le_refl _⟩, ⟨_, rfl, full_le _ _⟩, trivial⟩) ?_
  refine TO.op rfl rfl (by decide) (ok_build (rows := [(0, [_]), (1, [_]), (2, [_]), (3, [_]), (4, [_]), (5, [_]), (6, [_])]) rfl bl42 zo42 ⟨⟨rfl, (VL.le (vl rfl) (one_cellsP _))⟩, ⟨⟨rfl, (VL.le (vl rfl) (one_cellsP _))⟩, ⟨⟨rfl, (VL.le (vl rfl) (one_cellsP _))⟩, ⟨⟨rfl, (VL.le (vl rfl) (one_cellsP _))⟩, ⟨⟨rfl, (VL.le (vl rfl) (one_cellsP _))⟩, ⟨⟨rfl, (VL.le (vl rfl) (one_cellsP _))⟩, ⟨⟨rfl, (VL.le (vl rfl) (one_cellsP _))⟩, trivial⟩⟩⟩⟩⟩⟩⟩ rfl) ?_
  refine TO.alloc rfl rfl (by decide) rfl z42 zo42 (fun b2 => ?_)
  refine TO.store_all 0 rfl rfl rfl (vl rfl) (VL.le (vl rfl) (agg_cellsP _)) rfl sz42 rfl rfl ?_
  refine TO.nil ?_
  refine Fin.go ?_
  refine Tr.weak [(0, _), (2, _), (3, _)] ⟨⟨_, rfl, Pr.le_refl _⟩, ⟨_, rfl, Pr.le_refl _⟩, ⟨_, rfl, Pr.le_refl _⟩, trivial⟩ ?_
  refine Tr.seq ?_
  refine Tr.seq ?_
  generalize s.adv.adv.adv.adv.adv.adv.adv = s7
  generalize s.val 7 = src at f1 ⊢
  generalize word_ (s.adv) [[97], [98], [99]] = host at f2 ⊢
  generalize (s.adv.adv).of [0, 1, 2, 0, 3] = mach at f3 ⊢
  generalize (s.adv.adv.adv).val 12 = day at f4 ⊢
  generalize (s.adv.adv.adv.adv).of [90, 50, 100, 1] = conf at f5 ⊢
  generalize (s.adv.adv.adv.adv.adv).val 8 = kd at f6 ⊢
  generalize word_ (s.adv.adv.adv.adv.adv.adv) [[115], [116]] = subj at f7 ⊢
  have g3 : 0 ≤ mach ∧ mach ≤ 3 := by simp at f3; omega
  have g5 : 1 ≤ conf ∧ conf ≤ 100 := by simp at f5; omega
  refine Tr.reC 0 [int (1 + src), str host, int mach, int day, int conf, int (1 + kd), str subj, int 0, int 0, int 0, str []] rfl ⟨Pr.le_refl _, Pr.le_refl _, Pr.le_refl _, Pr.le_refl _, Pr.le_refl _, Pr.le_refl _, Pr.le_refl _, Pr.le_refl _, Pr.le_refl _, Pr.le_refl _, Pr.le_refl _, trivial⟩ ?_
  refine Tr.reg0 ?_
  refine Ch.op rfl rfl (by decide) (okp_fieldAddr rfl fo42_5 (vl rfl)) ?_
  refine Ch.op rfl rfl (by decide) (ok_rd 0 rfl (rd_load1 rfl one3 (vl rfl) rfl)) ?_
  refine Ch.nil ?_
  refine Fin.go ?_
  refine Tr.block ?_
  refine Tr.seq ?_
  refine Tr.seq ?_
  refine Tr.reg0 ?_
  refine Ch.op rfl rfl (by decide) (ok_int rfl (vl rfl) (vl rfl) rfl) ?_
  refine Ch.op rfl rfl (by decide) (ok_assign rfl (vl rfl)) ?_
  refine Ch.nil ?_
  refine Fin.go ?_
  refine Tr.cond rfl (fun h1 => ?_) (fun h1 => ?_)
  ·
    have q1 := Nrm.nrm h1
    refine Tr.skip ?_
    refine Fin.go ?_
    refine Tr.cond rfl (fun _ => ?_) (fun h => nomatch h1.symm.trans h)
    have f8 := s7.val_in (n := 4) (by omega)
    obtain ⟨u, hu⟩ := at_ (l := useL) (k := (s7.val 4).toNat) (by have : useL.length = 4 := rfl; omega)
    have hu2 := useL_ok u (List.mem_of_getElem? hu)
    refine Tr.regT ?_
    refine TO.op rfl rfl (by decide) (ok_build (rows := [(0, [_])]) rfl bl38 zo38 ⟨⟨rfl, (VL.le (vl rfl) (one_cellsP _))⟩, trivial⟩ rfl) ?_
    refine TO.op rfl rfl (by decide) (ok_build (rows := [(0, [_])]) rfl bl38 zo38 ⟨⟨rfl, (VL.le (vl rfl) (one_cellsP _))⟩, trivial⟩ rfl) ?_
    refine TO.op rfl rfl (by decide) (ok_build (rows := [(0, [_]), (1, [_])]) rfl bl38 zo38 ⟨⟨rfl, (VL.le (vl rfl) (one_cellsP _))⟩, ⟨⟨rfl, (VL.le (vl rfl) (one_cellsP _))⟩, trivial⟩⟩ rfl) ?_
    refine TO.op rfl rfl (by decide) (ok_build (rows := [(0, [_]), (1, [_])]) rfl bl38 zo38 ⟨⟨rfl, (VL.le (vl rfl) (one_cellsP _))⟩, ⟨⟨rfl, (VL.le (vl rfl) (one_cellsP _))⟩, trivial⟩⟩ rfl) ?_
    refine TO.op rfl rfl (by decide) (ok_buildSlice (xs := [.tmp 30, .tmp 31, .tmp 32, .tmp 33]) (rows := [_, _, _, _]) rfl rfl Tryz.underlying50 sz38 z38 rfl (by decide) ⟨⟨(by exact rfl), (VL.le (vl rfl) (agg_cellsP _))⟩, ⟨⟨(by exact rfl), (VL.le (vl rfl) (agg_cellsP _))⟩, ⟨⟨(by exact rfl), (VL.le (vl rfl) (agg_cellsP _))⟩, ⟨⟨(by exact rfl), (VL.le (vl rfl) (agg_cellsP _))⟩, trivial⟩⟩⟩⟩ (by decide)) ?_
    refine TO.op rfl rfl (by decide) (ok_move rfl (vl rfl)) ?_
    refine TO.efc 2 rfl rfl (by decide) (ef_callc rfl rfl (by decide) rfl (w_DNext (by omega) (by omega)) ⟨⟨_, rfl, Pr.le_refl _⟩, ⟨_, rfl, Pr.le_refl _⟩, trivial⟩) ?_
    refine TO.op rfl rfl (by decide) (ok_indexAddr rfl Tryz.underlying50 sz38 ⟨_, rfl, full_le _ _⟩ (vl rfl) (by omega) (row_atI (l := useL) (f := fun p : Int × Int => [int p.1, int p.2]) hu)) ?_
    refine TO.op rfl rfl (by decide) (ok_loadA rfl agg38 sz38 (vl rfl) rfl rfl) ?_
    refine TO.op rfl rfl (by decide) (okp_fieldAddr rfl fo42_7 (vl rfl)) ?_
    refine TO.ef0 0 rfl rfl (ef_store rfl rfl (vl rfl) (VL.le (vl rfl) (agg_cellsP _)) sz38 rfl (by exact Nat.le_of_ble_eq_true rfl) rfl) ?_
    refine TO.nil ?_
    refine Fin.block ?_
    refine Fin.go ?_
    refine Tr.weak [(2, _), (3, _)] ⟨⟨_, rfl, Pr.le_refl _⟩, ⟨_, rfl, Pr.le_refl _⟩, trivial⟩ ?_
    refine Tr.seq ?_
    refine Tr.reC 0 [int (1 + src), str host, int mach, int day, int conf, int (1 + kd), str subj, int u.1, int u.2, int 0, str []] rfl ⟨Pr.le_refl _, Pr.le_refl _, Pr.le_refl _, Pr.le_refl _, Pr.le_refl _, Pr.le_refl _, Pr.le_refl _, Pr.le_refl _, Pr.le_refl _, Pr.le_refl _, Pr.le_refl _, trivial⟩ ?_
    refine Tr.regT ?_
    refine TO.rd 0 rfl rfl rfl (by decide) (rd_loadA rfl agg42 sz42 (vl rfl) rfl rfl) ?_
    refine TO.store_all 1 rfl rfl rfl (vl rfl) (VL.le (vl rfl) (agg_cellsP _)) rfl sz42 rfl rfl ?_
    refine TO.nil ?_
    refine Fin.go ?_
    refine Tr.drop 0 ?_
    refine Tr.ret ?_
    refine Fin.closeD 1 _ rfl rfl ?_
    refine Fin.retY1 [_] rfl (RVal.cell 0 rfl rfl agg42 sz42 rfl (Pr.le_refl _)) ?_ (fun _ _ _ _ => rfl)
    · refine ex_in (Fnd.mk _ _ _ _ _ _ _ _ _ _ _) (fact_in ?_ (Pr.le_refl _)); exact good_mk (by show 1 ≤ 1 + src ∧ 1 + src ≤ 7; omega) f2.1 g3 f4 g5 f7.1 (by unfold contentF; rw [if_pos (by simp; omega)]; simp [hu2]) f2.2 f7.2 (by show (0 : Nat) ≤ _; omega)
  ·
    have q1 := Nrm.nrm h1
    refine Tr.reg0 ?_
    refine Ch.op rfl rfl (by decide) (ok_int rfl (vl rfl) (vl rfl) rfl) ?_
    refine Ch.op rfl rfl (by decide) (ok_assign rfl (vl rfl)) ?_
    refine Ch.nil ?_
    refine Fin.go ?_
    refine Tr.cond rfl (fun h2 => ?_) (fun h2 => ?_)
    ·
      have q2 := Nrm.nrm h2
      have f8 := s7.val_in (n := 4) (by omega)
      obtain ⟨u, hu⟩ := at_ (l := useL) (k := (s7.val 4).toNat) (by have : useL.length = 4 := rfl; omega)
      have hu2 := useL_ok u (List.mem_of_getElem? hu)
      refine Tr.regT ?_
      refine TO.op rfl rfl (by decide) (ok_build (rows := [(0, [_])]) rfl bl38 zo38 ⟨⟨rfl, (VL.le (vl rfl) (one_cellsP _))⟩, trivial⟩ rfl) ?_
      refine TO.op rfl rfl (by decide) (ok_build (rows := [(0, [_])]) rfl bl38 zo38 ⟨⟨rfl, (VL.le (vl rfl) (one_cellsP _))⟩, trivial⟩ rfl) ?_
      refine TO.op rfl rfl (by decide) (ok_build (rows := [(0, [_]), (1, [_])]) rfl bl38 zo38 ⟨⟨rfl, (VL.le (vl rfl) (one_cellsP _))⟩, ⟨⟨rfl, (VL.le (vl rfl) (one_cellsP _))⟩, trivial⟩⟩ rfl) ?_
      refine TO.op rfl rfl (by decide) (ok_build (rows := [(0, [_]), (1, [_])]) rfl bl38 zo38 ⟨⟨rfl, (VL.le (vl rfl) (one_cellsP _))⟩, ⟨⟨rfl, (VL.le (vl rfl) (one_cellsP _))⟩, trivial⟩⟩ rfl) ?_
      refine TO.op rfl rfl (by decide) (ok_buildSlice (xs := [.tmp 30, .tmp 31, .tmp 32, .tmp 33]) (rows := [_, _, _, _]) rfl rfl Tryz.underlying50 sz38 z38 rfl (by decide) ⟨⟨(by exact rfl), (VL.le (vl rfl) (agg_cellsP _))⟩, ⟨⟨(by exact rfl), (VL.le (vl rfl) (agg_cellsP _))⟩, ⟨⟨(by exact rfl), (VL.le (vl rfl) (agg_cellsP _))⟩, ⟨⟨(by exact rfl), (VL.le (vl rfl) (agg_cellsP _))⟩, trivial⟩⟩⟩⟩ (by decide)) ?_
      refine TO.op rfl rfl (by decide) (ok_move rfl (vl rfl)) ?_
      refine TO.efc 2 rfl rfl (by decide) (ef_callc rfl rfl (by decide) rfl (w_DNext (by omega) (by omega)) ⟨⟨_, rfl, Pr.le_refl _⟩, ⟨_, rfl, Pr.le_refl _⟩, trivial⟩) ?_
      refine TO.op rfl rfl (by decide) (ok_indexAddr rfl Tryz.underlying50 sz38 ⟨_, rfl, full_le _ _⟩ (vl rfl) (by omega) (row_atI (l := useL) (f := fun p : Int × Int => [int p.1, int p.2]) hu)) ?_
      refine TO.op rfl rfl (by decide) (ok_loadA rfl agg38 sz38 (vl rfl) rfl rfl) ?_
      refine TO.op rfl rfl (by decide) (okp_fieldAddr rfl fo42_7 (vl rfl)) ?_
      refine TO.ef0 0 rfl rfl (ef_store rfl rfl (vl rfl) (VL.le (vl rfl) (agg_cellsP _)) sz38 rfl (by exact Nat.le_of_ble_eq_true rfl) rfl) ?_
      refine TO.nil ?_
      refine Fin.block ?_
      refine Fin.go ?_
      refine Tr.weak [(2, _), (3, _)] ⟨⟨_, rfl, Pr.le_refl _⟩, ⟨_, rfl, Pr.le_refl _⟩, trivial⟩ ?_
      refine Tr.seq ?_
      refine Tr.reC 0 [int (1 + src), str host, int mach, int day, int conf, int (1 + kd), str subj, int u.1, int u.2, int 0, str []] rfl ⟨Pr.le_refl _, Pr.le_refl _, Pr.le_refl _, Pr.le_refl _, Pr.le_refl _, Pr.le_refl _, Pr.le_refl _, Pr.le_refl _, Pr.le_refl _, Pr.le_refl _, Pr.le_refl _, trivial⟩ ?_
      refine Tr.regT ?_
      refine TO.rd 0 rfl rfl rfl (by decide) (rd_loadA rfl agg42 sz42 (vl rfl) rfl rfl) ?_
      refine TO.store_all 1 rfl rfl rfl (vl rfl) (VL.le (vl rfl) (agg_cellsP _)) rfl sz42 rfl rfl ?_
      refine TO.nil ?_
      refine Fin.go ?_
      refine Tr.drop 0 ?_
      refine Tr.ret ?_
      refine Fin.closeD 1 _ rfl rfl ?_
      refine Fin.retY1 [_] rfl (RVal.cell 0 rfl rfl agg42 sz42 rfl (Pr.le_refl _)) ?_ (fun _ _ _ _ => rfl)
      · refine ex_in (Fnd.mk _ _ _ _ _ _ _ _ _ _ _) (fact_in ?_ (Pr.le_refl _)); exact good_mk (by show 1 ≤ 1 + src ∧ 1 + src ≤ 7; omega) f2.1 g3 f4 g5 f7.1 (by unfold contentF; rw [if_pos (by simp; omega)]; simp [hu2]) f2.2 f7.2 (by show (0 : Nat) ≤ _; omega)
    ·
      have q2 := Nrm.nrm h2
      refine Tr.seq ?_
      refine Tr.reg0 ?_
      refine Ch.op rfl rfl (by decide) (ok_int rfl (vl rfl) (vl rfl) rfl) ?_
      refine Ch.op rfl rfl (by decide) (ok_assign rfl (vl rfl)) ?_
      refine Ch.nil ?_
      refine Fin.go ?_
      refine Tr.cond rfl (fun h3 => ?_) (fun h3 => ?_)
      ·
        have q3 := Nrm.nrm h3
        have f8 := s7.val_in (n := 5) (by omega)
        refine Tr.regT ?_
        refine TO.op rfl rfl (by decide) (ok_move rfl (vl rfl)) ?_
        refine TO.efc 2 rfl rfl (by decide) (ef_callc rfl rfl (by decide) rfl (w_DNext (by omega) (by omega)) ⟨⟨_, rfl, Pr.le_refl _⟩, ⟨_, rfl, Pr.le_refl _⟩, trivial⟩) ?_
        first
          | (refine TO.op rfl rfl (by decide) (ok_add rfl (vl rfl) (vl rfl) ?hin) ?_; case hin => unfold InI; omega)
          | refine TO.op rfl rfl (by decide) (ok_int rfl (vl rfl) (vl rfl) rfl) ?_
        refine TO.op rfl rfl (by decide) (okp_fieldAddr rfl fo42_8 (vl rfl)) ?_
        refine TO.ef0 0 rfl rfl (ef_store rfl rfl (vl rfl) (VL.le (vl rfl) (one_cellsP _)) sz3 rfl (by exact Nat.le_of_ble_eq_true rfl) rfl) ?_
        refine TO.nil ?_
        refine Fin.block ?_
        refine Fin.go ?_
        refine Tr.weak [(2, _), (3, _)] ⟨⟨_, rfl, Pr.le_refl _⟩, ⟨_, rfl, Pr.le_refl _⟩, trivial⟩ ?_
        refine Tr.seq ?_
        refine Tr.reC 0 [int (1 + src), str host, int mach, int day, int conf, int (1 + kd), str subj, int 0, int 0, int (1 + s7.val 5), str []] rfl ⟨Pr.le_refl _, Pr.le_refl _, Pr.le_refl _, Pr.le_refl _, Pr.le_refl _, Pr.le_refl _, Pr.le_refl _, Pr.le_refl _, Pr.le_refl _, Pr.le_refl _, Pr.le_refl _, trivial⟩ ?_
        generalize s7.val 5 = nv at f8 ⊢
        refine Tr.regT ?_
        refine TO.rd 0 rfl rfl rfl (by decide) (rd_loadA rfl agg42 sz42 (vl rfl) rfl rfl) ?_
        refine TO.store_all 1 rfl rfl rfl (vl rfl) (VL.le (vl rfl) (agg_cellsP _)) rfl sz42 rfl rfl ?_
        refine TO.nil ?_
        refine Fin.go ?_
        refine Tr.drop 0 ?_
        refine Tr.ret ?_
        refine Fin.closeD 1 _ rfl rfl ?_
        refine Fin.retY1 [_] rfl (RVal.cell 0 rfl rfl agg42 sz42 rfl (Pr.le_refl _)) ?_ (fun _ _ _ _ => rfl)
        · refine ex_in (Fnd.mk _ _ _ _ _ _ _ _ _ _ _) (fact_in ?_ (Pr.le_refl _)); exact good_mk (by show 1 ≤ 1 + src ∧ 1 + src ≤ 7; omega) f2.1 g3 f4 g5 f7.1 (by unfold contentF bareF; rw [if_neg (by simp; omega), if_pos (by simp; omega)]; simp; omega) f2.2 f7.2 (by show (0 : Nat) ≤ _; omega)
      ·
        have q3 := Nrm.nrm h3
        refine Tr.seq ?_
        refine Tr.reg0 ?_
        refine Ch.op rfl rfl (by decide) (ok_int rfl (vl rfl) (vl rfl) rfl) ?_
        refine Ch.op rfl rfl (by decide) (ok_assign rfl (vl rfl)) ?_
        refine Ch.nil ?_
        refine Fin.go ?_
        refine Tr.cond rfl (fun h4 => ?_) (fun h4 => ?_)
        ·
          have q4 := Nrm.nrm h4
          have f8 := s7.of_mem (l := [1024, 2048]) (by simp)
          have f9 := s7.adv.val_in (n := 3) (by omega)
          refine Tr.regT ?_
          refine TO.op rfl rfl (by decide) (ok_move rfl (vl rfl)) ?_
          refine TO.op rfl rfl (by decide) (ok_buildSlice (xs := [.const (.int .i64 (1024)), .const (.int .i64 (2048))]) (rows := [[_], [_]]) rfl rfl Tryz.underlying22 sz3 z3 rfl (by decide) ⟨⟨(by exact rfl), (VL.le (vl rfl) (one_cellsP _))⟩, ⟨⟨(by exact rfl), (VL.le (vl rfl) (one_cellsP _))⟩, trivial⟩⟩ (by decide)) ?_
          refine TO.efc 2 rfl rfl (by decide) (ef_callc rfl rfl (by decide) rfl (w_DOf (l := [1024, 2048]) (by simp) (by simp)) ⟨⟨_, rfl, Pr.le_refl _⟩, ⟨_, rfl, full_le _ _⟩, trivial⟩) ?_
          refine TO.op rfl rfl (by decide) (ok_build (rows := [(0, [_]), (1, [_])]) rfl bl38 zo38 ⟨⟨rfl, (VL.le (vl rfl) (one_cellsP _))⟩, ⟨⟨rfl, (VL.le (vl rfl) (one_cellsP _))⟩, trivial⟩⟩ rfl) ?_
          refine TO.op rfl rfl (by decide) (ok_move rfl (vl rfl)) ?_
          refine TO.efc 2 rfl rfl (by decide) (ef_callc rfl rfl (by decide) rfl (w_DNext (by omega) (by omega)) ⟨⟨_, rfl, Pr.le_refl _⟩, ⟨_, rfl, Pr.le_refl _⟩, trivial⟩) ?_
          first
            | (refine TO.op rfl rfl (by decide) (ok_add rfl (vl rfl) (vl rfl) ?hin) ?_; case hin => unfold InI; omega)
            | refine TO.op rfl rfl (by decide) (ok_int rfl (vl rfl) (vl rfl) rfl) ?_
          refine TO.op rfl rfl (by decide) (okp_fieldAddr rfl fo42_7 (vl rfl)) ?_
          refine TO.ef0 0 rfl rfl (ef_store rfl rfl (vl rfl) (VL.le (vl rfl) (agg_cellsP _)) sz38 rfl (by exact Nat.le_of_ble_eq_true rfl) rfl) ?_
          refine TO.op rfl rfl (by decide) (okp_fieldAddr rfl fo42_8 (vl rfl)) ?_
          refine TO.ef0 0 rfl rfl (ef_store rfl rfl (vl rfl) (VL.le (vl rfl) (one_cellsP _)) sz3 rfl (by exact Nat.le_of_ble_eq_true rfl) rfl) ?_
          refine TO.nil ?_
          refine Fin.block ?_
          refine Fin.go ?_
          refine Tr.weak [(2, _), (3, _)] ⟨⟨_, rfl, Pr.le_refl _⟩, ⟨_, rfl, Pr.le_refl _⟩, trivial⟩ ?_
          refine Tr.seq ?_
          refine Tr.reC 0 [int (1 + src), str host, int mach, int day, int conf, int (1 + kd), str subj, int 5, int (s7.of [1024, 2048]), int (100 + s7.adv.val 3), str []] rfl ⟨Pr.le_refl _, Pr.le_refl _, Pr.le_refl _, Pr.le_refl _, Pr.le_refl _, Pr.le_refl _, Pr.le_refl _, Pr.le_refl _, Pr.le_refl _, Pr.le_refl _, Pr.le_refl _, trivial⟩ ?_
          generalize s7.of [1024, 2048] = bt at f8 ⊢
          generalize s7.adv.val 3 = nv at f9 ⊢
          refine Tr.regT ?_
          refine TO.rd 0 rfl rfl rfl (by decide) (rd_loadA rfl agg42 sz42 (vl rfl) rfl rfl) ?_
          refine TO.store_all 1 rfl rfl rfl (vl rfl) (VL.le (vl rfl) (agg_cellsP _)) rfl sz42 rfl rfl ?_
          refine TO.nil ?_
          refine Fin.go ?_
          refine Tr.drop 0 ?_
          refine Tr.ret ?_
          refine Fin.closeD 1 _ rfl rfl ?_
          refine Fin.retY1 [_] rfl (RVal.cell 0 rfl rfl agg42 sz42 rfl (Pr.le_refl _)) ?_ (fun _ _ _ _ => rfl)
          · refine ex_in (Fnd.mk _ _ _ _ _ _ _ _ _ _ _) (fact_in ?_ (Pr.le_refl _)); exact good_mk (by show 1 ≤ 1 + src ∧ 1 + src ≤ 7; omega) f2.1 g3 f4 g5 f7.1 (by unfold contentF; rw [if_neg (by simp; omega), if_neg (by simp; omega), if_pos (by simp; omega)]; simp at f8; rcases f8 with h | h <;> rw [h] <;> simp [show strength 5 1024 > 0 by decide, show strength 5 2048 > 0 by decide, show (catOf 5).kind = 2 by rfl] <;> omega) f2.2 f7.2 (by show (0 : Nat) ≤ _; omega)
        ·
          have q4 := Nrm.nrm h4
          refine Tr.seq ?_
          refine Tr.seq ?_
          refine Tr.reg0 ?_
          refine Ch.op rfl rfl (by decide) (ok_int rfl (vl rfl) (vl rfl) rfl) ?_
          refine Ch.op rfl rfl (by decide) (ok_assign rfl (vl rfl)) ?_
          refine Ch.nil ?_
          refine Fin.go ?_
          refine Tr.weak [(0, _), (2, _), (3, _), (26, _), (57, _)] ⟨⟨_, rfl, Pr.le_refl _⟩, ⟨_, rfl, Pr.le_refl _⟩, ⟨_, rfl, Pr.le_refl _⟩, ⟨_, rfl, Pr.le_refl _⟩, ⟨_, rfl, Pr.le_refl _⟩, trivial⟩ ?_
          refine Tr.cond rfl (fun h5 => ?_) (fun h5 => ?_)
          ·
            have q5 := Nrm.nrm h5
            refine Tr.skip ?_
            refine Fin.go ?_
            refine Tr.cond rfl (fun _ => ?_) (fun h => nomatch h5.symm.trans h)
            have f8 := s7.val_in (n := 4) (by omega)
            refine Tr.regT ?_
            refine TO.op rfl rfl (by decide) (ok_move rfl (vl rfl)) ?_
            refine TO.efc 2 rfl rfl (by decide) (ef_callc rfl rfl (by decide) rfl (w_DNext (by omega) (by omega)) ⟨⟨_, rfl, Pr.le_refl _⟩, ⟨_, rfl, Pr.le_refl _⟩, trivial⟩) ?_
            first
              | (refine TO.op rfl rfl (by decide) (ok_add rfl (vl rfl) (vl rfl) ?hin) ?_; case hin => unfold InI; omega)
              | refine TO.op rfl rfl (by decide) (ok_int rfl (vl rfl) (vl rfl) rfl) ?_
            refine TO.op rfl rfl (by decide) (okp_fieldAddr rfl fo42_8 (vl rfl)) ?_
            refine TO.ef0 0 rfl rfl (ef_store rfl rfl (vl rfl) (VL.le (vl rfl) (one_cellsP _)) sz3 rfl (by exact Nat.le_of_ble_eq_true rfl) rfl) ?_
            refine TO.nil ?_
            refine Fin.block ?_
            refine Fin.go ?_
            refine Tr.seq ?_
            refine Tr.reC 0 [int (1 + src), str host, int mach, int day, int conf, int (1 + kd), str subj, int 0, int 0, int (1 + s7.val 4), str []] rfl ⟨Pr.le_refl _, Pr.le_refl _, Pr.le_refl _, Pr.le_refl _, Pr.le_refl _, Pr.le_refl _, Pr.le_refl _, Pr.le_refl _, Pr.le_refl _, Pr.le_refl _, Pr.le_refl _, trivial⟩ ?_
            generalize s7.val 4 = nv at f8 ⊢
            refine Tr.regT ?_
            refine TO.rd 0 rfl rfl rfl (by decide) (rd_loadA rfl agg42 sz42 (vl rfl) rfl rfl) ?_
            refine TO.store_all 1 rfl rfl rfl (vl rfl) (VL.le (vl rfl) (agg_cellsP _)) rfl sz42 rfl rfl ?_
            refine TO.nil ?_
            refine Fin.go ?_
            refine Tr.drop 0 ?_
            refine Tr.ret ?_
            refine Fin.closeD 1 _ rfl rfl ?_
            refine Fin.retY1 [_] rfl (RVal.cell 0 rfl rfl agg42 sz42 rfl (Pr.le_refl _)) ?_ (fun _ _ _ _ => rfl)
            · refine ex_in (Fnd.mk _ _ _ _ _ _ _ _ _ _ _) (fact_in ?_ (Pr.le_refl _)); exact good_mk (by show 1 ≤ 1 + src ∧ 1 + src ≤ 7; omega) f2.1 g3 f4 g5 f7.1 (by unfold contentF bareF; rw [if_neg (by simp; omega), if_neg (by simp; omega), if_neg (by simp; omega), if_pos (by simp; omega)]; simp; omega) f2.2 f7.2 (by show (0 : Nat) ≤ _; omega)
          ·
            have q5 := Nrm.nrm h5
            refine Tr.reg0 ?_
            refine Ch.op rfl rfl (by decide) (ok_int rfl (vl rfl) (vl rfl) rfl) ?_
            refine Ch.op rfl rfl (by decide) (ok_assign rfl (vl rfl)) ?_
            refine Ch.nil ?_
            refine Fin.go ?_
            refine Tr.cond rfl (fun h6 => ?_) (fun h6 => ?_)
            ·
              have q6 := Nrm.nrm h6
              have f8 := s7.val_in (n := 4) (by omega)
              refine Tr.regT ?_
              refine TO.op rfl rfl (by decide) (ok_move rfl (vl rfl)) ?_
              refine TO.efc 2 rfl rfl (by decide) (ef_callc rfl rfl (by decide) rfl (w_DNext (by omega) (by omega)) ⟨⟨_, rfl, Pr.le_refl _⟩, ⟨_, rfl, Pr.le_refl _⟩, trivial⟩) ?_
              first
                | (refine TO.op rfl rfl (by decide) (ok_add rfl (vl rfl) (vl rfl) ?hin) ?_; case hin => unfold InI; omega)
                | refine TO.op rfl rfl (by decide) (ok_int rfl (vl rfl) (vl rfl) rfl) ?_
              refine TO.op rfl rfl (by decide) (okp_fieldAddr rfl fo42_8 (vl rfl)) ?_
              refine TO.ef0 0 rfl rfl (ef_store rfl rfl (vl rfl) (VL.le (vl rfl) (one_cellsP _)) sz3 rfl (by exact Nat.le_of_ble_eq_true rfl) rfl) ?_
              refine TO.nil ?_
              refine Fin.block ?_
              refine Fin.go ?_
              refine Tr.seq ?_
              refine Tr.reC 0 [int (1 + src), str host, int mach, int day, int conf, int (1 + kd), str subj, int 0, int 0, int (1 + s7.val 4), str []] rfl ⟨Pr.le_refl _, Pr.le_refl _, Pr.le_refl _, Pr.le_refl _, Pr.le_refl _, Pr.le_refl _, Pr.le_refl _, Pr.le_refl _, Pr.le_refl _, Pr.le_refl _, Pr.le_refl _, trivial⟩ ?_
              generalize s7.val 4 = nv at f8 ⊢
              refine Tr.regT ?_
              refine TO.rd 0 rfl rfl rfl (by decide) (rd_loadA rfl agg42 sz42 (vl rfl) rfl rfl) ?_
              refine TO.store_all 1 rfl rfl rfl (vl rfl) (VL.le (vl rfl) (agg_cellsP _)) rfl sz42 rfl rfl ?_
              refine TO.nil ?_
              refine Fin.go ?_
              refine Tr.drop 0 ?_
              refine Tr.ret ?_
              refine Fin.closeD 1 _ rfl rfl ?_
              refine Fin.retY1 [_] rfl (RVal.cell 0 rfl rfl agg42 sz42 rfl (Pr.le_refl _)) ?_ (fun _ _ _ _ => rfl)
              · refine ex_in (Fnd.mk _ _ _ _ _ _ _ _ _ _ _) (fact_in ?_ (Pr.le_refl _)); exact good_mk (by show 1 ≤ 1 + src ∧ 1 + src ≤ 7; omega) f2.1 g3 f4 g5 f7.1 (by unfold contentF bareF; rw [if_neg (by simp; omega), if_neg (by simp; omega), if_neg (by simp; omega), if_pos (by simp; omega)]; simp; omega) f2.2 f7.2 (by show (0 : Nat) ≤ _; omega)
            ·
              have q6 := Nrm.nrm h6
              refine Tr.seq ?_
              refine Tr.reg0 ?_
              refine Ch.op rfl rfl (by decide) (ok_int rfl (vl rfl) (vl rfl) rfl) ?_
              refine Ch.op rfl rfl (by decide) (ok_assign rfl (vl rfl)) ?_
              refine Ch.nil ?_
              refine Fin.go ?_
              refine Tr.cond rfl (fun h7 => ?_) (fun h7 => ?_)
              ·
                have q7 := Nrm.nrm h7
                have f8 := s7.val_in (n := 3) (by omega)
                refine Tr.regT ?_
                refine TO.op rfl rfl (by decide) (ok_move rfl (vl rfl)) ?_
                refine TO.efc 2 rfl rfl (by decide) (ef_callc rfl rfl (by decide) rfl (w_DNext (by omega) (by omega)) ⟨⟨_, rfl, Pr.le_refl _⟩, ⟨_, rfl, Pr.le_refl _⟩, trivial⟩) ?_
                refine TO.op rfl rfl (by decide) (okp_fieldAddr rfl fo42_8 (vl rfl)) ?_
                refine TO.ef0 0 rfl rfl (ef_store rfl rfl (vl rfl) (VL.le (vl rfl) (one_cellsP _)) sz3 rfl (by exact Nat.le_of_ble_eq_true rfl) rfl) ?_
                refine TO.nil ?_
                refine Fin.block ?_
                refine Fin.go ?_
                refine Tr.seq ?_
                refine Tr.reC 0 [int (1 + src), str host, int mach, int day, int conf, int (1 + kd), str subj, int 0, int 0, int (s7.val 3), str []] rfl ⟨Pr.le_refl _, Pr.le_refl _, Pr.le_refl _, Pr.le_refl _, Pr.le_refl _, Pr.le_refl _, Pr.le_refl _, Pr.le_refl _, Pr.le_refl _, Pr.le_refl _, Pr.le_refl _, trivial⟩ ?_
                generalize s7.val 3 = nv at f8 ⊢
                refine Tr.regT ?_
                refine TO.rd 0 rfl rfl rfl (by decide) (rd_loadA rfl agg42 sz42 (vl rfl) rfl rfl) ?_
                refine TO.store_all 1 rfl rfl rfl (vl rfl) (VL.le (vl rfl) (agg_cellsP _)) rfl sz42 rfl rfl ?_
                refine TO.nil ?_
                refine Fin.go ?_
                refine Tr.drop 0 ?_
                refine Tr.ret ?_
                refine Fin.closeD 1 _ rfl rfl ?_
                refine Fin.retY1 [_] rfl (RVal.cell 0 rfl rfl agg42 sz42 rfl (Pr.le_refl _)) ?_ (fun _ _ _ _ => rfl)
                · refine ex_in (Fnd.mk _ _ _ _ _ _ _ _ _ _ _) (fact_in ?_ (Pr.le_refl _)); exact good_mk (by show 1 ≤ 1 + src ∧ 1 + src ≤ 7; omega) f2.1 g3 f4 g5 f7.1 (by unfold contentF bareF; rw [if_neg (by simp; omega), if_neg (by simp; omega), if_neg (by simp; omega), if_neg (by simp; omega), if_pos (by simp; omega)]; simp; omega) f2.2 f7.2 (by show (0 : Nat) ≤ _; omega)
              ·
                have q7 := Nrm.nrm h7
                refine Tr.seq ?_
                skip
                refine Tr.reg0 ?_
                refine Ch.op rfl rfl (by decide) (ok_int rfl (vl rfl) (vl rfl) rfl) ?_
                refine Ch.op rfl rfl (by decide) (ok_assign rfl (vl rfl)) ?_
                refine Ch.nil ?_
                refine Fin.go ?_
                refine Tr.cond rfl (fun h8 => ?_) (fun h8 => ?_)
                ·
                  have q8 := Nrm.nrm h8
                  have f8 := named_ab (word_mem s7 (l := [[97], [98]]) (by simp))
                  refine Tr.regT ?_
                  refine TO.op rfl rfl (by decide) (ok_move rfl (vl rfl)) ?_
                  refine TO.op rfl rfl (by decide) (ok_buildSlice (xs := [.const (.string ⟨[97].toArray⟩), .const (.string ⟨[98].toArray⟩)]) (rows := [[_], [_]]) rfl rfl Tryz.underlying33 sz9 z9 rfl (by decide) ⟨⟨(by exact rfl), (VL.le (vl rfl) (one_cellsP _))⟩, ⟨⟨(by exact rfl), (VL.le (vl rfl) (one_cellsP _))⟩, trivial⟩⟩ (by decide)) ?_
                  refine TO.efc 2 rfl rfl (by decide) (ef_callc rfl rfl (by decide) rfl (w_DWord (l := [[97], [98]]) (by simp) (by simp)) ⟨⟨_, rfl, Pr.le_refl _⟩, ⟨_, rfl, full_le _ _⟩, trivial⟩) ?_
                  refine TO.op rfl rfl (by decide) (okp_fieldAddr rfl fo42_9 (vl rfl)) ?_
                  refine TO.ef0 0 rfl rfl (ef_store rfl rfl (vl rfl) (VL.le (vl rfl) (one_cellsP _)) sz9 rfl (by exact Nat.le_of_ble_eq_true rfl) rfl) ?_
                  refine TO.nil ?_
                  refine Fin.block ?_
                  refine Fin.go ?_
                  refine Tr.weak [(2, _), (3, _)] ⟨⟨_, rfl, Pr.le_refl _⟩, ⟨_, rfl, Pr.le_refl _⟩, trivial⟩ ?_
                  refine Tr.seq ?_
                  refine Tr.reC 0 [int (1 + src), str host, int mach, int day, int conf, int (1 + kd), str subj, int 0, int 0, int 0, str (word_ s7 [[97], [98]])] rfl ⟨Pr.le_refl _, Pr.le_refl _, Pr.le_refl _, Pr.le_refl _, Pr.le_refl _, Pr.le_refl _, Pr.le_refl _, Pr.le_refl _, Pr.le_refl _, Pr.le_refl _, Pr.le_refl _, trivial⟩ ?_
                  generalize word_ s7 [[97], [98]] = tx at f8 ⊢
                  refine Tr.regT ?_
                  refine TO.rd 0 rfl rfl rfl (by decide) (rd_loadA rfl agg42 sz42 (vl rfl) rfl rfl) ?_
                  refine TO.store_all 1 rfl rfl rfl (vl rfl) (VL.le (vl rfl) (agg_cellsP _)) rfl sz42 rfl rfl ?_
                  refine TO.nil ?_
                  refine Fin.go ?_
                  refine Tr.drop 0 ?_
                  refine Tr.ret ?_
                  refine Fin.closeD 1 _ rfl rfl ?_
                  refine Fin.retY1 [_] rfl (RVal.cell 0 rfl rfl agg42 sz42 rfl (Pr.le_refl _)) ?_ (fun _ _ _ _ => rfl)
                  · refine ex_in (Fnd.mk _ _ _ _ _ _ _ _ _ _ _) (fact_in ?_ (Pr.le_refl _)); exact good_mk (by show 1 ≤ 1 + src ∧ 1 + src ≤ 7; omega) f2.1 g3 f4 g5 f7.1 (by unfold contentF; rw [if_neg (by simp; omega), if_neg (by simp; omega), if_neg (by simp; omega), if_neg (by simp; omega), if_neg (by simp; omega), if_pos (by simp; omega)]; simp [f8.1]) f2.2 f7.2 f8.2
                ·
                  have q8 := Nrm.nrm h8
                  refine Tr.skip ?_
                  refine Fin.block ?_
                  refine Fin.go ?_
                  refine Tr.seq ?_
                  refine Tr.reC 0 [int (1 + src), str host, int mach, int day, int conf, int (1 + kd), str subj, int 0, int 0, int 0, str []] rfl ⟨Pr.le_refl _, Pr.le_refl _, Pr.le_refl _, Pr.le_refl _, Pr.le_refl _, Pr.le_refl _, Pr.le_refl _, Pr.le_refl _, Pr.le_refl _, Pr.le_refl _, Pr.le_refl _, trivial⟩ ?_
                  refine Tr.regT ?_
                  refine TO.rd 0 rfl rfl rfl (by decide) (rd_loadA rfl agg42 sz42 (vl rfl) rfl rfl) ?_
                  refine TO.store_all 1 rfl rfl rfl (vl rfl) (VL.le (vl rfl) (agg_cellsP _)) rfl sz42 rfl rfl ?_
                  refine TO.nil ?_
                  refine Fin.go ?_
                  refine Tr.drop 0 ?_
                  refine Tr.ret ?_
                  refine Fin.closeD 1 _ rfl rfl ?_
                  refine Fin.retY1 [_] rfl (RVal.cell 0 rfl rfl agg42 sz42 rfl (Pr.le_refl _)) ?_ (fun _ _ _ _ => rfl)
                  · exfalso; omega
theorem e_Finding : Entry Tryz.prog 32 := ⟨_, Tryz.func32, rfl, rfl⟩
set_option maxRecDepth 20000 in
theorem w_Findings {b : Nat} {s : DS} {m : Nat} (hm : m ≤ 100) : FunM Tryz.prog 11 [ptr b 0, int ((m : Nat) : Int)] (ex fun l : List Fnd => fact (GoodFs l m) (fnds l)) (diceS b s) (fun _ => diceEx 74 b) := by
  refine FunM.of Tryz.func11 rfl rfl (by exact Nat.le_of_ble_eq_true rfl) fun M0 w0 S rs M1 w1 => ?_
  refine Tr.seq ?_
  refine Tr.reg0 ?_
  refine Ch.op rfl rfl (by decide) (ok_assign rfl (vl rfl)) ?_
  refine Ch.nil ?_
  refine Fin.go ?_
  refine Tr.seq ?_
  refine Tr.reg0 ?_
  refine Ch.op rfl rfl (by decide) (ok_assign rfl (vl rfl)) ?_
  refine Ch.nil ?_
  refine Fin.go ?_
  refine Tr.seq ?_
  refine Tr.seq ?_
  refine Tr.regT ?_
  refine TO.op rfl rfl (by decide) (ok_move rfl (vl rfl)) ?_
  refine TO.op rfl rfl (by decide) (ok_move rfl (vl rfl)) ?_
  first
    | (refine TO.op rfl rfl (by decide) (ok_add rfl (vl rfl) (vl rfl) ?hin) ?_; case hin => unfold InI; omega)
    | refine TO.op rfl rfl (by decide) (ok_int rfl (vl rfl) (vl rfl) rfl) ?_
  refine TO.efc 0 rfl rfl (by decide) (ef_callc rfl rfl (by decide) rfl (w_DNext (by omega) (by omega)) ⟨⟨_, rfl, Pr.le_refl _⟩, ⟨_, rfl, Pr.le_refl _⟩, trivial⟩) ?_
  refine TO.op rfl rfl (by decide) (ok_assign rfl (vl rfl)) ?_
  refine TO.nil ?_
  refine Fin.go ?_
  refine Tr.block ?_
  have hv := s.val_in (n := (m : Int) + 1) (by omega)
  refine Tr.addnil 42 11 ?_
  refine Tr.loopD3V1 [(0, _)] ⟨⟨_, rfl, Pr.le_refl _⟩, trivial⟩ (fun (l : List Fnd) (k : Int) (s2 : DS) u => [(6, int k), (5, andIs u (fnds l))]) (fun (l : List Fnd) (k : Int) (s2 : DS) u => Hp M0 w0 S (appRes 42 11 u :: diceS b s2 :: extRes M1 w1 :: rs)) (fun (l : List Fnd) (k : Int) (s2 : DS) => 0 ≤ k ∧ l.length + k ≤ m ∧ ∀ f ∈ l, GoodF f) (fun (l : List Fnd) (k : Int) (s2 : DS) => k.toNat) ([]) (_) (_) (.slice none 0 0) (⟨by omega, by simp; omega, by simp⟩) ⟨⟨_, rfl, Pr.le_refl _⟩, ⟨_, rfl, own_nil (by simp)⟩, trivial⟩ (fun _ _ h => h) ?_
  rintro l k s2 u ⟨hk, hkm, hl⟩
  refine Tr.seq ?_
  refine Tr.seq ?_
  refine Tr.reg0 ?_
  refine Ch.op rfl rfl (by decide) (ok_move rfl (vl rfl)) ?_
  refine Ch.op rfl rfl (by decide) (ok_int rfl (vl rfl) (vl rfl) rfl) ?_
  refine Ch.nil ?_
  refine Fin.go ?_
  refine Tr.cond rfl (fun h1 => ?_) (fun h1 => ?_)
  ·
    have q1 := Nrm.nrm h1
    have hk0 : k > 0 := of_decide_eq_true h1
    refine Tr.skip ?_
    refine Fin.go ?_
    refine Tr.seq ?_
    refine Tr.block ?_
    refine Tr.regT ?_
    refine TO.op rfl rfl (by decide) (ok_move rfl (vl rfl)) ?_
    refine TO.op rfl rfl (by decide) (ok_move rfl (vl rfl)) ?_
    refine TO.efc 1 rfl rfl (by decide) (ef_callc rfl rfl (by decide) rfl (w_Finding) ⟨⟨_, rfl, Pr.le_refl _⟩, trivial⟩) ?_
    refine TO.ex 19 rfl (fun z1 => TO.fact 19 rfl fun hz1 => ?_)
    refine TO.op rfl rfl (by decide) (ok_buildSlice (xs := [.tmp 19]) (rows := [_]) rfl rfl Tryz.underlying27 sz42 z42 rfl (by decide) ⟨⟨(by exact rfl), (VL.le (vl rfl) (agg_cellsP _))⟩, trivial⟩ (by decide)) ?_
    refine TO.efs 0 rfl rfl (by decide) (ef_append rfl rfl (by decide) rfl Tryz.underlying27 sz42 by42 z42 rfl (by decide) ⟨_, rfl, andIs_le _ _⟩ ⟨_, rfl, full_le _ _⟩ (by simp only [List.length_map, List.length_append, List.length_cons, List.length_nil]; unfold maxLen; omega) (by simp only [List.length_map, List.length_append, List.length_cons, List.length_nil]; omega) (appR_is (by exact List.Mem.head _) ⟨_, rfl, andIs_is _ _⟩)) (fun v1 => ?_)
    refine TO.op rfl rfl (by decide) (ok_assign rfl (vl rfl)) ?_
    refine TO.nil ?_
    refine Fin.openD 1 rfl (fun s1 => ?_)
    refine Fin.block ?_
    refine Fin.go ?_
    refine Tr.reg0 ?_
    refine Ch.op rfl rfl (by decide) (ok_move rfl (vl rfl)) ?_
    first
      | (refine Ch.op rfl rfl (by decide) (ok_sub rfl (vl rfl) (vl rfl) ?hin) ?_; case hin => unfold InI; omega)
      | refine Ch.op rfl rfl (by decide) (ok_int rfl (vl rfl) (vl rfl) rfl) ?_
    refine Ch.op rfl rfl (by decide) (ok_assign rfl (vl rfl)) ?_
    refine Ch.nil ?_
    exact Fin.famD3V1 (l ++ [z1]) (k - 1) (_) v1 (⟨⟨by omega, by simp; omega, all_snocF hl hz1⟩, by omega⟩) ⟨⟨_, rfl, Pr.le_refl _⟩, ⟨_, rfl, own_le (by rw [List.map_append]; rfl)⟩, ⟨_, rfl, Pr.le_refl _⟩, trivial⟩ (fun _ _ h => h)
  ·
    have q1 := Nrm.nrm h1
    have hk0 : ¬ k > 0 := of_decide_eq_false h1
    refine Tr.exit ?_
    refine Fin.then_exit ?_
    refine Fin.then_exit ?_
    refine Fin.block_here ?_
    refine Fin.go ?_
    refine Tr.seq ?_
    refine Tr.reg0 ?_
    refine Ch.op rfl rfl (by decide) (ok_move rfl (vl rfl)) ?_
    refine Ch.op rfl rfl (by decide) (ok_call rfl (w_R14Norm (l := l) (fun f hf => (hl f hf).check) (by omega)) ⟨⟨_, rfl, andIs_le _ _⟩, trivial⟩) ?_
    refine Ch.op rfl rfl (by decide) (ok_move rfl (vl rfl)) ?_
    refine Ch.op rfl rfl (by decide) (ok_extract rfl (vl rfl) rfl) ?_
    refine Ch.op rfl rfl (by decide) (ok_extract rfl (vl rfl) rfl) ?_
    refine Ch.op rfl rfl (by decide) (ok_assign rfl (vl rfl)) ?_
    refine Ch.op rfl rfl (by decide) (ok_assign rfl (vl rfl)) ?_
    refine Ch.nil ?_
    refine Fin.go ?_
    refine Tr.seq ?_
    refine Tr.reg0 ?_
    refine Ch.op rfl rfl (by decide) (ok_move rfl (vl rfl)) ?_
    refine Ch.op rfl rfl (by decide) (ok_assign rfl (vl rfl)) ?_
    refine Ch.nil ?_
    refine Fin.go ?_
    refine Tr.weak [(4, _)] ⟨⟨_, rfl, Pr.le_refl _⟩, trivial⟩ ?_
    refine Tr.ret ?_
    refine Fin.closeD 1 _ rfl rfl ?_
    refine Fin.retY1 [_] rfl (RVal.tmp rfl (Pr.le_refl _)) ?_ (fun _ _ _ _ => rfl)
    · exact ex_in (l.foldl putF []) (fact_in (good_fold hl (by omega)) (Pr.le_refl _))
theorem e_Findings : Entry Tryz.prog 11 := ⟨_, Tryz.func11, rfl, rfl⟩
end Go.Proofs.YthmnoekgicggnaaGreat
