/-
  What the functions named below compute, proved from their text; printed by a program of our own.
-/
import Derived.Test.YthmnoekgicggnaaGreatTypes
import Derived.Test.YthmnoekgicggnaaGreatSlices
import Derived.Test.YthmnoekgicggnaaGreatEqs
import Derived.Test.YthmnoekgicggnaaGreatCat
import Derived.Test.YthmnoekgicggnaaGreatCat2
import Derived.Test.YthmnoekgicggnaaGreatCat3
import Derived.Test.YthmnoekgicggnaaGreatCat5
import Derived.Test.YthmnoekgicggnaaGreatFindA
import Derived.Test.YthmnoekgicggnaaGreatFindB
import Derived.Test.YthmnoekgicggnaaGreatFindC
import Derived.Test.YthmnoekgicggnaaGreatFindD
import Derived.Test.YthmnoekgicggnaaGreatSortA
import Derived.Test.YthmnoekgicggnaaGreatAssetA
namespace Go.Proofs.YthmnoekgicggnaaGreat
open Go Go.RowKit Cp
set_option maxRecDepth 20000 in
theorem w_CloneP {l : List Int} (hl : l.length ≤ 1000000000) : Fun Tryz.prog 60 [ints l] (ints l) := by
  refine Fun.of Tryz.func60 rfl rfl (by exact Nat.le_of_ble_eq_true rfl) fun M0 w0 => ?_
  refine Tr.seq ?_
  refine Tr.reg0 ?_
  refine Ch.op rfl rfl (by decide) (ok_assign rfl (vl rfl)) ?_
  refine Ch.nil ?_
  refine Fin.go ?_
  refine Tr.seq ?_
  refine Tr.seq ?_
  refine Tr.reg0 ?_
  refine Ch.op rfl rfl (by decide) (ok_move rfl (vl rfl)) ?_
  refine Ch.op rfl rfl (by decide) (ok_eqnil rfl Tryz.underlying22 (vl rfl)) ?_
  refine Ch.nil ?_
  refine Fin.go ?_
  refine Tr.ex 4 rfl (fun z1 => Tr.fact 4 rfl fun hz1 => ?_)
  refine Tr.cond rfl (fun h1 => ?_) (fun h1 => ?_)
  ·
    have q1 := Nrm.nrm h1
    refine Tr.seq ?_
    refine Tr.reg0 ?_
    refine Ch.op rfl rfl (by decide) (ok_assign rfl (vl rfl)) ?_
    refine Ch.nil ?_
    refine Fin.go ?_
    refine Tr.ret ?_
    refine Fin.then_ret ?_
    refine Fin.ret1 rfl (OutW.bse _ _) rfl ?_
    · (have hl0 : l = [] := (by simpa using hz1 h1)); subst hl0; exact nil_slice 1
  ·
    have q1 := Nrm.nrm h1
    refine Tr.skip ?_
    refine Fin.go ?_
    refine Tr.seq ?_
    refine Tr.regT ?_
    refine TO.op rfl rfl (by decide) (ok_buildSlice (xs := []) (rows := []) rfl rfl Tryz.underlying22 sz3 z3 rfl (by decide) trivial (by decide)) ?_
    refine TO.op rfl rfl (by decide) (ok_move rfl (vl rfl)) ?_
    refine TO.pad ?_
    refine TO.efs 0 rfl rfl (by decide) (ef_append rfl rfl (by decide) rfl Tryz.underlying22 sz3 by3 z3 rfl (by decide) ⟨_, rfl, full_le _ _⟩ (vl rfl) (by simp only [List.length_map, List.length_append, List.length_cons, List.length_nil]; unfold maxLen; omega) (by simp only [List.length_map, List.length_append, List.length_cons, List.length_nil]; omega) (appR_full (by exact List.Mem.head _) (vl rfl))) (fun v1 => ?_)
    refine TO.op rfl rfl (by decide) (ok_assign rfl (vl rfl)) ?_
    refine TO.nil ?_
    refine Fin.go ?_
    refine Tr.ret ?_
    refine Fin.ret1 rfl (OutW.bse _ _) rfl ?_
    · exact Pr.le_trans (andIs_le _ _) (Pr.le_of_eq (by simp))
theorem e_CloneP : Entry Tryz.prog 60 := ⟨_, Tryz.func60, rfl, rfl⟩
set_option maxRecDepth 20000 in
theorem w_CompAscI {l : List Int} (hl : Asc l) (hs : l.length ≤ 1000000) : Fun Tryz.prog 62 [ints l] (ints l) := by
  refine Fun.of Tryz.func62 rfl rfl (by exact Nat.le_of_ble_eq_true rfl) fun M0 w0 => ?_
  refine Tr.seq ?_
  refine Tr.reg0 ?_
  refine Ch.op rfl rfl (by decide) (ok_assign rfl (vl rfl)) ?_
  refine Ch.nil ?_
  refine Fin.go ?_
  refine Tr.seq ?_
  refine Tr.seq ?_
  refine Tr.reg0 ?_
  refine Ch.op rfl rfl (by decide) (ok_move rfl (vl rfl)) ?_
  first
    | refine Ch.op rfl rfl (by decide) (ok_lenm rfl Tryz.underlying22 (vl rfl)) ?_
    | refine Ch.op rfl rfl (by decide) (ok_len rfl Tryz.underlying22 (vl rfl)) ?_
  refine Ch.op rfl rfl (by decide) (ok_int rfl (vl rfl) (vl rfl) rfl) ?_
  refine Ch.nil ?_
  refine Fin.go ?_
  refine Tr.cond rfl (fun h1 => ?_) (fun h1 => ?_)
  ·
    have q1 := Nrm.nrm h1
    refine Tr.seq ?_
    refine Tr.reg0 ?_
    refine Ch.op rfl rfl (by decide) (ok_move rfl (vl rfl)) ?_
    refine Ch.op rfl rfl (by decide) (ok_assign rfl (vl rfl)) ?_
    refine Ch.nil ?_
    refine Fin.go ?_
    refine Tr.ret ?_
    refine Fin.then_ret ?_
    refine Fin.ret1 rfl (OutW.bse _ _) rfl ?_
    · first | exact Pr.le_refl _ | (refine int_eq ?_; simp_all; done) | (refine bool_eq ?_; simp_all; done) | (refine bool_eq ?_; simp_all; omega) | (refine int_eq ?_; omega)
  ·
    have q1 := Nrm.nrm h1
    refine Tr.skip ?_
    refine Fin.go ?_
    refine Tr.seq ?_
    refine Tr.seq ?_
    refine Tr.reg0 ?_
    refine Ch.op rfl rfl (by decide) (ok_assign rfl (vl rfl)) ?_
    refine Ch.nil ?_
    refine Fin.go ?_
    refine Tr.block ?_
    refine Tr.loopw [(0, _)] ⟨⟨_, rfl, Pr.le_refl _⟩, trivial⟩ (fun k : Nat => [(3, int ((k : Nat) : Int))]) (fun k : Nat => 1 ≤ k ∧ k ≤ l.length) (fun k : Nat => l.length - k) 1 (⟨by omega, by omega⟩) ⟨⟨_, rfl, Pr.le_refl _⟩, trivial⟩ ?_
    rintro k ⟨hk1, hk2⟩
    refine Tr.seq ?_
    refine Tr.seq ?_
    refine Tr.reg0 ?_
    refine Ch.op rfl rfl (by decide) (ok_move rfl (vl rfl)) ?_
    refine Ch.op rfl rfl (by decide) (ok_move rfl (vl rfl)) ?_
    first
      | refine Ch.op rfl rfl (by decide) (ok_lenm rfl Tryz.underlying22 (vl rfl)) ?_
      | refine Ch.op rfl rfl (by decide) (ok_len rfl Tryz.underlying22 (vl rfl)) ?_
    refine Ch.op rfl rfl (by decide) (ok_int rfl (vl rfl) (vl rfl) rfl) ?_
    refine Ch.nil ?_
    refine Fin.go ?_
    refine Tr.cond rfl (fun h2 => ?_) (fun h2 => ?_)
    ·
      have q2 := Nrm.nrm h2
      have hkl : k < l.length := lt_of_dec h2
      obtain ⟨x, hx⟩ := at_ hkl
      obtain ⟨p, hp⟩ := at_ (l := l) (k := k - 1) (by omega)
      have hpx := asc_ne hl (by omega) hp hx
      refine Tr.skip ?_
      refine Fin.go ?_
      refine Tr.seq ?_
      refine Tr.block ?_
      refine Tr.seq ?_
      refine Tr.reg1 mixed (by kernel_rfl) ?_
      refine Ch.op rfl rfl (by decide) (ok_move rfl (vl rfl)) ?_
      refine Ch.op rfl rfl (by decide) (ok_move rfl (vl rfl)) ?_
      refine Ch.op rfl rfl (by decide) (ok_indexAddr rfl Tryz.underlying22 sz3 (vl rfl) (vl rfl) (by omega) (row_at hx)) ?_
      refine Ch.op rfl rfl (by decide) (ok_load1 rfl one3 (vl rfl)) ?_
      refine Ch.op rfl rfl (by decide) (ok_move rfl (vl rfl)) ?_
      refine Ch.op rfl rfl (by decide) (ok_move rfl (vl rfl)) ?_
      first
        | (refine Ch.op rfl rfl (by decide) (ok_sub rfl (vl rfl) (vl rfl) ?hin) ?_; case hin => unfold InI; omega)
        | refine Ch.op rfl rfl (by decide) (ok_int rfl (vl rfl) (vl rfl) rfl) ?_
      refine Ch.op rfl rfl (by decide) (ok_indexAddr rfl Tryz.underlying22 sz3 (vl rfl) (vl rfl) (by omega) (pred_ints hp (by omega))) ?_
      refine Ch.op rfl rfl (by decide) (ok_load1 rfl one3 (vl rfl)) ?_
      refine Ch.op rfl rfl (by decide) (ok_int rfl (vl rfl) (vl rfl) rfl) ?_
      refine Ch.nil ?_
      refine Fin.go ?_
      refine Tr.weak [(0, _), (3, _), (25, _)] ⟨⟨_, rfl, Pr.le_refl _⟩, ⟨_, rfl, Pr.le_refl _⟩, ⟨_, rfl, Pr.le_refl _⟩, trivial⟩ ?_
      refine Tr.cond rfl (fun h3 => ?_) (fun h3 => ?_)
      ·
        have q3 := Nrm.nrm h3
        exfalso; omega
      ·
        have q3 := Nrm.nrm h3
        refine Tr.skip ?_
        refine Fin.block ?_
        refine Fin.go ?_
        refine Tr.reg0 ?_
        refine Ch.op rfl rfl (by decide) (ok_move rfl (vl rfl)) ?_
        first
          | (refine Ch.op rfl rfl (by decide) (ok_add rfl (vl rfl) (vl rfl) ?hin) ?_; case hin => unfold InI; omega)
          | refine Ch.op rfl rfl (by decide) (ok_int rfl (vl rfl) (vl rfl) rfl) ?_
        refine Ch.op rfl rfl (by decide) (ok_assign rfl (vl rfl)) ?_
        refine Ch.nil ?_
        exact Fin.fam_same (k + 1) ⟨⟨by omega, by omega⟩, by omega⟩ ⟨⟨_, rfl, int_succ k⟩, ⟨_, rfl, Pr.le_refl _⟩, trivial⟩
    ·
      have q2 := Nrm.nrm h2
      have := h2
      refine Tr.exit ?_
      refine Fin.then_exit ?_
      refine Fin.then_exit ?_
      refine Fin.block_here ?_
      refine Fin.go ?_
      refine Tr.seq ?_
      refine Tr.reg0 ?_
      refine Ch.op rfl rfl (by decide) (ok_move rfl (vl rfl)) ?_
      refine Ch.op rfl rfl (by decide) (ok_assign rfl (vl rfl)) ?_
      refine Ch.nil ?_
      refine Fin.go ?_
      refine Tr.ret ?_
      refine Fin.ret1 rfl (OutW.bse _ _) rfl ?_
      · first | exact Pr.le_refl _ | (refine int_eq ?_; simp_all; done) | (refine bool_eq ?_; simp_all; done) | (refine bool_eq ?_; simp_all; omega) | (refine int_eq ?_; omega)
theorem e_CompAscI : Entry Tryz.prog 62 := ⟨_, Tryz.func62, rfl, rfl⟩

abbrev entP (n : Int) (own : List Int) : Pr := agg [int n, any, any, ints own]
def InR (own : List Int) (m : Nat) : Prop := ∀ i ∈ own, 0 ≤ i ∧ i < (m : Int)
instance (own : List Int) (m : Nat) : Decidable (InR own m) := inferInstanceAs (Decidable (∀ i ∈ own, 0 ≤ i ∧ i < (m : Int)))
theorem asc_le {l : List Int} (h : Asc l) : ∀ (d i : Nat) {x y : Int}, l[i]? = some x → l[i + d]? = some y → x ≤ y
  | 0, i, x, y, hx, hy => by rw [Nat.add_zero, hx] at hy; cases hy; exact Int.le_refl _
  | d + 1, i, x, y, hx, hy => by
    have hlt : i + d < l.length := by
      rcases Nat.lt_or_ge (i + (d + 1)) l.length with h' | h'
      · omega
      · rw [List.getElem?_eq_none h'] at hy; cases hy
    have h1 := asc_le h d i hx (List.getElem?_eq_getElem hlt)
    have h2 := h (i + d) _ y (List.getElem?_eq_getElem hlt) (by rw [show i + d + 1 = i + (d + 1) by omega]; exact hy)
    omega
theorem inR_iff {own : List Int} (ha : Asc own) {m : Nat} {a z : Int} (h0 : own[0]? = some a) (h1 : own[own.length - 1]? = some z) : InR own m ↔ (0 ≤ a ∧ z < m) := by
  constructor
  · intro h; exact ⟨(h a (List.mem_of_getElem? h0)).1, (h z (List.mem_of_getElem? h1)).2⟩
  · rintro ⟨h2, h3⟩ i hi
    obtain ⟨j, hj⟩ := List.mem_iff_getElem?.1 hi
    have hlt : j < own.length := by rcases Nat.lt_or_ge j own.length with h | h; exact h; rw [List.getElem?_eq_none h] at hj; cases hj
    have h4 := asc_le ha j 0 h0 (by rw [Nat.zero_add]; exact hj)
    have h5 := asc_le ha (own.length - 1 - j) j hj (by rw [show j + (own.length - 1 - j) = own.length - 1 by omega]; exact h1)
    omega
theorem last_int {l : List Int} {z : Int} (h0 : 0 < l.length) (h : l[l.length - 1]? = some z) : (l.map fun n => [int n])[(((l.length : Nat) : Int) - 1).toNat]? = some [int z] := by
  rw [show (((l.length : Nat) : Int) - 1).toNat = l.length - 1 by omega, List.getElem?_map, h]; rfl

set_option maxRecDepth 20000 in
theorem w_indices {l : List Fnd} {n : Int} {own : List Int} (ha : Asc own) (hs : own.length ≤ 12) : Fun Tryz.prog 35 [fnds l, entP n own] (tup [ints own, bool (decide (InR own l.length))]) := by
  refine Fun.of Tryz.func35 rfl rfl (by exact Nat.le_of_ble_eq_true rfl) fun M0 w0 => ?_
  refine Tr.lenm 0 rfl fun hlm_0 => ?_
  refine Tr.seq ?_
  refine Tr.reg0 ?_
  refine Ch.op rfl rfl (by decide) (ok_box rfl (VL.le (vl rfl) (agg_cellsP _))) ?_
  refine Ch.op rfl rfl (by decide) (ok_assign rfl (vl rfl)) ?_
  refine Ch.op rfl rfl (by decide) (ok_assign rfl (vl rfl)) ?_
  refine Ch.nil ?_
  refine Fin.go ?_
  refine Tr.seq ?_
  refine Tr.reg0 ?_
  refine Ch.op rfl rfl (by decide) (ok_fieldAddr rfl fo35_3 (vl rfl) rfl) ?_
  refine Ch.op rfl rfl (by decide) (ok_load1 rfl one22 (vl rfl)) ?_
  refine Ch.op rfl rfl (by decide) (ok_call rfl (w_CloneP (by omega)) ⟨⟨_, rfl, Pr.le_refl _⟩, trivial⟩) ?_
  refine Ch.op rfl rfl (by decide) (ok_assign rfl (vl rfl)) ?_
  refine Ch.nil ?_
  refine Fin.go ?_
  refine Tr.seq ?_
  refine Tr.reg0 ?_
  refine Ch.op rfl rfl (by decide) (ok_move rfl (vl rfl)) ?_
  refine Ch.op rfl rfl (by decide) (ok_call rfl (w_SortAsc (by assumption) (by omega)) ⟨⟨_, rfl, Pr.le_refl _⟩, trivial⟩) ?_
  refine Ch.nil ?_
  refine Fin.go ?_
  refine Tr.seq ?_
  refine Tr.reg0 ?_
  refine Ch.op rfl rfl (by decide) (ok_move rfl (vl rfl)) ?_
  refine Ch.op rfl rfl (by decide) (ok_call rfl (w_CompAscI (by assumption) (by omega)) ⟨⟨_, rfl, Pr.le_refl _⟩, trivial⟩) ?_
  refine Ch.op rfl rfl (by decide) (ok_assign rfl (vl rfl)) ?_
  refine Ch.nil ?_
  refine Fin.go ?_
  refine Tr.seq ?_
  refine Tr.reg1 mixed (by kernel_rfl) ?_
  refine Ch.op rfl rfl (by decide) (ok_move rfl (vl rfl)) ?_
  refine Ch.op rfl rfl (by decide) (ok_move rfl (vl rfl)) ?_
  first
    | refine Ch.op rfl rfl (by decide) (ok_lenm rfl Tryz.underlying22 (vl rfl)) ?_
    | refine Ch.op rfl rfl (by decide) (ok_len rfl Tryz.underlying22 (vl rfl)) ?_
  refine Ch.op rfl rfl (by decide) (ok_int rfl (vl rfl) (vl rfl) rfl) ?_
  refine Ch.op rfl rfl (by decide) (ok_move rfl (vl rfl)) ?_
  refine Ch.cases 18 rfl (fun h1 => ?_) (fun h1 => ?_)
  ·
    have q1 := Nrm.nrm h1
    refine Ch.no rfl rfl rfl (ne_false h1) rfl (by decide) ?_
    refine Ch.no rfl rfl rfl (ne_false h1) rfl (by decide) ?_
    refine Ch.no rfl rfl rfl (ne_false h1) rfl (by decide) ?_
    refine Ch.no rfl rfl rfl (ne_false h1) rfl (by decide) ?_
    refine Ch.no rfl rfl rfl (ne_false h1) rfl (by decide) ?_
    refine Ch.un rfl rfl rfl rfl (by decide) ?_
    refine Ch.un rfl rfl rfl rfl (by decide) ?_
    refine Ch.un rfl rfl rfl rfl (by decide) ?_
    refine Ch.un rfl rfl rfl rfl (by decide) ?_
    refine Ch.un rfl rfl rfl rfl (by decide) ?_
    refine Ch.un rfl rfl rfl rfl (by decide) ?_
    refine Ch.un rfl rfl rfl rfl (by decide) ?_
    refine Ch.un rfl rfl rfl rfl (by decide) ?_
    refine Ch.un rfl rfl rfl rfl (by decide) ?_
    refine Ch.no rfl rfl rfl (ne_false h1) rfl (by decide) ?_
    refine Ch.op rfl rfl (by decide) (ok_pick_t rfl (vl rfl) h1 (vl rfl)) ?_
    refine Ch.op rfl rfl (by decide) (ok_assign rfl (vl rfl)) ?_
    refine Ch.op rfl rfl (by decide) (ok_assign rfl (vl rfl)) ?_
    refine Ch.nil ?_
    refine Fin.go ?_
    refine Tr.weak [(4, _), (5, _)] ⟨⟨_, rfl, Pr.le_refl _⟩, ⟨_, rfl, Pr.le_refl _⟩, trivial⟩ ?_
    refine Tr.ret ?_
    refine Fin.ret2 rfl (OutW.bse _ _) rfl ?_ rfl ?_
    · first | exact Pr.le_refl _ | (refine int_eq ?_; simp_all; done) | (refine bool_eq ?_; simp_all; done) | (refine bool_eq ?_; simp_all; omega) | (refine int_eq ?_; omega)
    · refine bool_eq ?_; symm; rw [decide_eq_true_eq]; intro i hi; have hn : own = [] := List.eq_nil_of_length_eq_zero (by omega); rw [hn] at hi; cases hi
  ·
    have q1 := Nrm.nrm h1
    have hpos : 0 < own.length := by omega
    obtain ⟨a, h0⟩ := at_ (l := own) (k := 0) hpos
    obtain ⟨z, hz⟩ := at_ (l := own) (k := own.length - 1) (by omega)
    have hiff := inR_iff ha (m := l.length) h0 hz
    refine Ch.yes rfl rfl rfl h1 rfl (by decide) (ok_move rfl (vl rfl)) ?_
    refine Ch.yes rfl rfl rfl h1 rfl (by decide) (ok_indexAddr rfl Tryz.underlying22 sz3 (vl rfl) (vl rfl) (by omega) (row_at (k := 0) h0)) ?_
    refine Ch.yes rfl rfl rfl h1 rfl (by decide) (ok_load1 rfl one3 (vl rfl)) ?_
    refine Ch.yes rfl rfl rfl h1 rfl (by decide) (ok_int rfl (vl rfl) (vl rfl) rfl) ?_
    refine Ch.yes rfl rfl rfl h1 rfl (by decide) (ok_move rfl (vl rfl)) ?_
    refine Ch.cases 23 rfl (fun h2 => ?_) (fun h2 => ?_)
    ·
      have q2 := Nrm.nrm h2
      refine Ch.yes rfl rfl rfl h2 rfl (by decide) (ok_move rfl (vl rfl)) ?_
      refine Ch.yes rfl rfl rfl h2 rfl (by decide) (ok_move rfl (vl rfl)) ?_
      first
        | refine Ch.yes rfl rfl rfl h2 rfl (by decide) (ok_lenm rfl Tryz.underlying22 (vl rfl)) ?_
        | refine Ch.yes rfl rfl rfl h2 rfl (by decide) (ok_len rfl Tryz.underlying22 (vl rfl)) ?_
      first
        | (refine Ch.yes rfl rfl rfl h2 rfl (by decide) (ok_sub rfl (vl rfl) (vl rfl) ?hin) ?_; case hin => unfold InI; omega)
        | refine Ch.yes rfl rfl rfl h2 rfl (by decide) (ok_int rfl (vl rfl) (vl rfl) rfl) ?_
      refine Ch.yes rfl rfl rfl h2 rfl (by decide) (ok_indexAddr rfl Tryz.underlying22 sz3 (vl rfl) (vl rfl) (by omega) (last_int hpos hz)) ?_
      refine Ch.yes rfl rfl rfl h2 rfl (by decide) (ok_load1 rfl one3 (vl rfl)) ?_
      refine Ch.yes rfl rfl rfl h2 rfl (by decide) (ok_move rfl (vl rfl)) ?_
      first
        | refine Ch.yes rfl rfl rfl h2 rfl (by decide) (ok_lenm rfl Tryz.underlying27 (vl rfl)) ?_
        | refine Ch.yes rfl rfl rfl h2 rfl (by decide) (ok_len rfl Tryz.underlying27 (vl rfl)) ?_
      refine Ch.yes rfl rfl rfl h2 rfl (by decide) (ok_int rfl (vl rfl) (vl rfl) rfl) ?_
      refine Ch.yes rfl rfl rfl h1 rfl (by decide) (ok_pick_t rfl (vl rfl) h2 (vl rfl)) ?_
      refine Ch.op rfl rfl (by decide) (ok_pick_f rfl (vl rfl) h1 (vl rfl)) ?_
      refine Ch.op rfl rfl (by decide) (ok_assign rfl (vl rfl)) ?_
      refine Ch.op rfl rfl (by decide) (ok_assign rfl (vl rfl)) ?_
      refine Ch.nil ?_
      refine Fin.go ?_
      refine Tr.weak [(4, _), (5, _)] ⟨⟨_, rfl, Pr.le_refl _⟩, ⟨_, rfl, Pr.le_refl _⟩, trivial⟩ ?_
      refine Tr.ret ?_
      refine Fin.ret2 rfl (OutW.bse _ _) rfl ?_ rfl ?_
      · first | exact Pr.le_refl _ | (refine int_eq ?_; simp_all; done) | (refine bool_eq ?_; simp_all; done) | (refine bool_eq ?_; simp_all; omega) | (refine int_eq ?_; omega)
      · refine bool_eq ?_; rw [decide_eq_decide, hiff]; omega
    ·
      have q2 := Nrm.nrm h2
      refine Ch.no rfl rfl rfl (ne_true h2) rfl (by decide) ?_
      refine Ch.no rfl rfl rfl (ne_true h2) rfl (by decide) ?_
      refine Ch.no rfl rfl rfl (ne_true h2) rfl (by decide) ?_
      refine Ch.no rfl rfl rfl (ne_true h2) rfl (by decide) ?_
      refine Ch.no rfl rfl rfl (ne_true h2) rfl (by decide) ?_
      refine Ch.no rfl rfl rfl (ne_true h2) rfl (by decide) ?_
      refine Ch.no rfl rfl rfl (ne_true h2) rfl (by decide) ?_
      refine Ch.no rfl rfl rfl (ne_true h2) rfl (by decide) ?_
      refine Ch.no rfl rfl rfl (ne_true h2) rfl (by decide) ?_
      refine Ch.yes rfl rfl rfl h1 rfl (by decide) (ok_pick_f rfl (vl rfl) h2 (vl rfl)) ?_
      refine Ch.op rfl rfl (by decide) (ok_pick_f rfl (vl rfl) h1 (vl rfl)) ?_
      refine Ch.op rfl rfl (by decide) (ok_assign rfl (vl rfl)) ?_
      refine Ch.op rfl rfl (by decide) (ok_assign rfl (vl rfl)) ?_
      refine Ch.nil ?_
      refine Fin.go ?_
      refine Tr.weak [(4, _), (5, _)] ⟨⟨_, rfl, Pr.le_refl _⟩, ⟨_, rfl, Pr.le_refl _⟩, trivial⟩ ?_
      refine Tr.ret ?_
      refine Fin.ret2 rfl (OutW.bse _ _) rfl ?_ rfl ?_
      · first | exact Pr.le_refl _ | (refine int_eq ?_; simp_all; done) | (refine bool_eq ?_; simp_all; done) | (refine bool_eq ?_; simp_all; omega) | (refine int_eq ?_; omega)
      · refine bool_eq ?_; symm; rw [decide_eq_false_iff_not, hiff]; omega
theorem e_indices : Entry Tryz.prog 35 := ⟨_, Tryz.func35, rfl, rfl⟩
end Go.Proofs.YthmnoekgicggnaaGreat
