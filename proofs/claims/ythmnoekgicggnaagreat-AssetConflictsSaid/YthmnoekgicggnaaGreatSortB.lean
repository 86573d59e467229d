/-
  What the functions named below compute, proved from their text; printed by a program of our own.
-/
import Derived.Test.YthmnoekgicggnaaGreatTypes
import Derived.Test.YthmnoekgicggnaaGreatSlices
import Derived.Test.YthmnoekgicggnaaGreatEqs
import Derived.Test.YthmnoekgicggnaaGreatCat
import Derived.Test.YthmnoekgicggnaaGreatCat2
import Derived.Test.YthmnoekgicggnaaGreatFindD
import Derived.Test.YthmnoekgicggnaaGreatCoreU
import Derived.Test.YthmnoekgicggnaaGreatSortA
import Derived.Test.YthmnoekgicggnaaGreatAssetB
import Derived.Test.YthmnoekgicggnaaGreatFindA
import Derived.Test.YthmnoekgicggnaaGreatFindB
import Derived.Test.YthmnoekgicggnaaGreatFindC
import Derived.Test.YthmnoekgicggnaaGreatAssetA
namespace Go.Proofs.YthmnoekgicggnaaGreat
open Go Go.RowKit Cp

theorem fact_in {φ : Prop} {p q : Pr} (h : φ) (hl : Pr.le p q) : Pr.le p (fact φ q) := fun _ _ _ hp => ⟨h, hl _ _ _ hp⟩
theorem tab_pos {l : List UInt8} {x : Nat} {hl : x < l.length} (h : (l.drop 1).all (fun b => decide (1 ≤ b.toNat)) = true) (h0 : 1 ≤ x) : ¬ IntKind.i64.wrap (IntKind.i64.wrap ((l[x]).toNat : Int)) = 0 := by
  have h1 : (l.drop 1)[x - 1]? = some l[x] := by rw [List.getElem?_drop, show 1 + (x - 1) = x by omega, List.getElem?_eq_getElem hl]
  have := List.all_eq_true.1 h _ (List.mem_of_getElem? h1)
  have hb : (l[x]).toNat < 256 := UInt8.toNat_lt _
  have hw := IntWalk.i64_in ((l[x]).toNat : Int) ⟨by omega, by omega⟩
  rw [hw, hw]
  simp at this; omega
theorem asc_lt {l : List Int} (h : Asc l) : ∀ (d i : Nat) {x y : Int}, l[i]? = some x → l[i + (d + 1)]? = some y → x < y
  | 0, i, x, y, hx, hy => h i x y hx hy
  | d + 1, i, x, y, hx, hy => by
    have hlt : i + (d + 1) < l.length := by
      rcases Nat.lt_or_ge (i + (d + 1)) l.length with h' | h'
      · exact h'
      · rw [List.getElem?_eq_none (by omega)] at hy; cases hy
    have h1 := asc_lt h d i hx (List.getElem?_eq_getElem hlt)
    have h2 := h (i + (d + 1)) _ y (List.getElem?_eq_getElem hlt) (by rw [show i + (d + 1) + 1 = i + (d + 1 + 1) by omega]; exact hy)
    omega
theorem asc_ltI {l : List Int} (h : Asc l) {i j : Int} {x y : Int} (h0 : 0 ≤ i) (hij : i < j) (hx : l[i.toNat]? = some x) (hy : l[j.toNat]? = some y) : x < y :=
  asc_lt h (j.toNat - i.toNat - 1) i.toNat hx (by rw [show i.toNat + (j.toNat - i.toNat - 1 + 1) = j.toNat by omega]; exact hy)

set_option maxRecDepth 20000 in
theorem w_Len64p {x : Int} (h0 : 1 ≤ x) (h1 : x < 256) : Fun Tryz.prog 114 [is (.int .u64 x)] (ex fun k : Int => fact (¬ k = 0) (int k)) := by
  refine Fun.of Tryz.func114 rfl rfl (by exact Nat.le_of_ble_eq_true rfl) fun M0 w0 => ?_
  have hw : IntKind.u8.wrap x = x := IntWalk.u8_in x ⟨by omega, by omega⟩
  refine Tr.seq ?_
  refine Tr.reg0 ?_
  refine Ch.op rfl rfl (by decide) (ok_assign rfl (vl rfl)) ?_
  refine Ch.nil ?_
  refine Fin.go ?_
  refine Tr.seq ?_
  refine Tr.seq ?_
  refine Tr.reg0 ?_
  refine Ch.op rfl rfl (by decide) (ok_move rfl (vl rfl)) ?_
  refine Ch.op rfl rfl (by decide) (ok_int rfl (vl rfl) (vl rfl) rfl) ?_
  refine Ch.nil ?_
  refine Fin.go ?_
  refine Tr.cond rfl (fun h1 => ?_) (fun h1 => ?_)
  ·
    have q1 := Nrm.nrm h1
    exfalso; omega
  ·
    have q1 := Nrm.nrm h1
    refine Tr.skip ?_
    refine Fin.go ?_
    refine Tr.seq ?_
    refine Tr.seq ?_
    refine Tr.reg0 ?_
    refine Ch.op rfl rfl (by decide) (ok_move rfl (vl rfl)) ?_
    refine Ch.op rfl rfl (by decide) (ok_int rfl (vl rfl) (vl rfl) rfl) ?_
    refine Ch.nil ?_
    refine Fin.go ?_
    refine Tr.cond rfl (fun h2 => ?_) (fun h2 => ?_)
    ·
      have q2 := Nrm.nrm h2
      exfalso; omega
    ·
      have q2 := Nrm.nrm h2
      refine Tr.skip ?_
      refine Fin.go ?_
      refine Tr.seq ?_
      refine Tr.seq ?_
      refine Tr.reg0 ?_
      refine Ch.op rfl rfl (by decide) (ok_move rfl (vl rfl)) ?_
      refine Ch.op rfl rfl (by decide) (ok_int rfl (vl rfl) (vl rfl) rfl) ?_
      refine Ch.nil ?_
      refine Fin.go ?_
      refine Tr.cond rfl (fun h3 => ?_) (fun h3 => ?_)
      ·
        have q3 := Nrm.nrm h3
        exfalso; omega
      ·
        have q3 := Nrm.nrm h3
        refine Tr.skip ?_
        refine Fin.go ?_
        refine Tr.seq ?_
        refine Tr.reg0 ?_
        refine Ch.op rfl rfl (by decide) (ok_move rfl (vl rfl)) ?_
        refine Ch.op rfl rfl (by decide) (ok_move rfl (vl rfl)) ?_
        first
          | refine Ch.op rfl rfl (by decide) (ok_convI rfl Tryz.underlying138 Tryz.underlying5 (vl rfl) (by unfold InI; omega)) ?_
          | refine Ch.op rfl rfl (by decide) (ok_conv rfl Tryz.underlying138 Tryz.underlying5 (vl rfl)) ?_
        refine Ch.op rfl rfl (by decide) (ok_sidx rfl Tryz.underlying9 (vl rfl) (vl rfl) (by omega) (List.getElem?_eq_getElem (by show _ < 256; omega))) ?_
        first
          | refine Ch.op rfl rfl (by decide) (ok_convI rfl Tryz.underlying5 Tryz.underlying3 (vl rfl) (by unfold InI; omega)) ?_
          | refine Ch.op rfl rfl (by decide) (ok_conv rfl Tryz.underlying5 Tryz.underlying3 (vl rfl)) ?_
        first
          | (refine Ch.op rfl rfl (by decide) (ok_add rfl (vl rfl) (vl rfl) ?hin) ?_; case hin => unfold InI; omega)
          | refine Ch.op rfl rfl (by decide) (ok_int rfl (vl rfl) (vl rfl) rfl) ?_
        refine Ch.op rfl rfl (by decide) (ok_assign rfl (vl rfl)) ?_
        refine Ch.nil ?_
        refine Fin.go ?_
        refine Tr.weak [(2, _)] ⟨⟨_, rfl, Pr.le_refl _⟩, trivial⟩ ?_
        refine Tr.ret ?_
        refine Fin.ret1 rfl (OutW.bse _ _) rfl ?_
        · refine ex_in _ (fact_in ?_ (Pr.le_refl _)); rw [Int.zero_add]; refine tab_pos ?_ (by rw [hw]; omega); decide +kernel
theorem e_Len64p : Entry Tryz.prog 114 := ⟨_, Tryz.func114, rfl, rfl⟩
set_option maxRecDepth 20000 in
theorem w_BLenp {x : Int} (h0 : 1 ≤ x) (h1 : x < 256) : Fun Tryz.prog 66 [is (.int .u64 x)] (ex fun k : Int => fact (¬ k = 0) (int k)) := by
  refine Fun.of Tryz.func66 rfl rfl (by exact Nat.le_of_ble_eq_true rfl) fun M0 w0 => ?_
  refine Tr.seq ?_
  refine Tr.reg0 ?_
  refine Ch.op rfl rfl (by decide) (ok_assign rfl (vl rfl)) ?_
  refine Ch.nil ?_
  refine Fin.go ?_
  refine Tr.seq ?_
  refine Tr.cond rfl (fun h => nomatch h) (fun _ => ?_)
  refine Tr.skip ?_
  refine Fin.go ?_
  refine Tr.seq ?_
  refine Tr.reg0 ?_
  refine Ch.op rfl rfl (by decide) (ok_move rfl (vl rfl)) ?_
  refine Ch.op rfl rfl (by decide) (ok_call rfl (w_Len64p (by omega) (by omega)) ⟨⟨_, rfl, Pr.le_refl _⟩, trivial⟩) ?_
  refine Ch.op rfl rfl (by decide) (ok_assign rfl (vl rfl)) ?_
  refine Ch.nil ?_
  refine Fin.go ?_
  refine Tr.ret ?_
  refine Fin.ret1 rfl (OutW.bse _ _) rfl ?_
  · first | exact Pr.le_refl _ | (refine int_eq ?_; simp_all; done) | (refine bool_eq ?_; simp_all; done) | (refine bool_eq ?_; simp_all; omega) | (refine int_eq ?_; omega)
theorem e_BLenp : Entry Tryz.prog 66 := ⟨_, Tryz.func66, rfl, rfl⟩
set_option maxRecDepth 20000 in
theorem w_order2Asc {l : List Int} {a b : Int} (hl : Asc l) (h0 : 0 ≤ a) (hab : a < b) (hb : b < l.length) : Fun Tryz.prog 163 [ints l, int a, int b, any] (tup [int a, int b]) := by
  refine Fun.of Tryz.func163 rfl rfl (by exact Nat.le_of_ble_eq_true rfl) fun M0 w0 => ?_
  obtain ⟨x, hx⟩ := at_ (l := l) (k := a.toNat) (by omega)
  obtain ⟨y, hy⟩ := at_ (l := l) (k := b.toNat) (by omega)
  have hxy := asc_ltI hl h0 hab hx hy
  refine Tr.seq ?_
  refine Tr.reg0 ?_
  refine Ch.op rfl rfl (by decide) (ok_assign rfl (vl rfl)) ?_
  refine Ch.op rfl rfl (by decide) (ok_assign rfl (vl rfl)) ?_
  refine Ch.nil ?_
  refine Fin.go ?_
  refine Tr.seq ?_
  refine Tr.seq ?_
  refine Tr.reg1 mixed (by kernel_rfl) ?_
  refine Ch.op rfl rfl (by decide) (ok_move rfl (vl rfl)) ?_
  refine Ch.op rfl rfl (by decide) (ok_move rfl (vl rfl)) ?_
  refine Ch.op rfl rfl (by decide) (ok_indexAddr rfl Tryz.underlying22 sz3 (vl rfl) (vl rfl) (by omega) (at_int hy)) ?_
  refine Ch.op rfl rfl (by decide) (ok_load1 rfl one3 (vl rfl)) ?_
  refine Ch.op rfl rfl (by decide) (ok_move rfl (vl rfl)) ?_
  refine Ch.op rfl rfl (by decide) (ok_move rfl (vl rfl)) ?_
  refine Ch.op rfl rfl (by decide) (ok_indexAddr rfl Tryz.underlying22 sz3 (vl rfl) (vl rfl) (by omega) (at_int hx)) ?_
  refine Ch.op rfl rfl (by decide) (ok_load1 rfl one3 (vl rfl)) ?_
  refine Ch.op rfl rfl (by decide) (ok_call rfl (w_lessI) ⟨⟨_, rfl, Pr.le_refl _⟩, ⟨_, rfl, Pr.le_refl _⟩, trivial⟩) ?_
  refine Ch.nil ?_
  refine Fin.go ?_
  refine Tr.cond rfl (fun h1 => ?_) (fun h1 => ?_)
  ·
    have q1 := Nrm.nrm h1
    exfalso; omega
  ·
    have q1 := Nrm.nrm h1
    refine Tr.skip ?_
    refine Fin.go ?_
    refine Tr.seq ?_
    refine Tr.reg0 ?_
    refine Ch.op rfl rfl (by decide) (ok_move rfl (vl rfl)) ?_
    refine Ch.op rfl rfl (by decide) (ok_move rfl (vl rfl)) ?_
    refine Ch.op rfl rfl (by decide) (ok_assign rfl (vl rfl)) ?_
    refine Ch.op rfl rfl (by decide) (ok_assign rfl (vl rfl)) ?_
    refine Ch.nil ?_
    refine Fin.go ?_
    refine Tr.weak [(8, _), (9, _)] ⟨⟨_, rfl, Pr.le_refl _⟩, ⟨_, rfl, Pr.le_refl _⟩, trivial⟩ ?_
    refine Tr.ret ?_
    refine Fin.ret2 rfl (OutW.bse _ _) rfl ?_ rfl ?_
    · first | exact Pr.le_refl _ | (refine int_eq ?_; simp_all; done) | (refine bool_eq ?_; simp_all; done) | (refine bool_eq ?_; simp_all; omega) | (refine int_eq ?_; omega)
    · first | exact Pr.le_refl _ | (refine int_eq ?_; simp_all; done) | (refine bool_eq ?_; simp_all; done) | (refine bool_eq ?_; simp_all; omega) | (refine int_eq ?_; omega)
theorem e_order2Asc : Entry Tryz.prog 163 := ⟨_, Tryz.func163, rfl, rfl⟩
set_option maxRecDepth 20000 in
theorem w_medAsc {l : List Int} {a b c : Int} (hl : Asc l) (h0 : 0 ≤ a) (hab : a < b) (hbc : b < c) (hc : c < l.length) : Fun Tryz.prog 156 [ints l, int a, int b, int c, any] (int b) := by
  refine Fun.of Tryz.func156 rfl rfl (by exact Nat.le_of_ble_eq_true rfl) fun M0 w0 => ?_
  refine Tr.seq ?_
  refine Tr.reg0 ?_
  refine Ch.op rfl rfl (by decide) (ok_assign rfl (vl rfl)) ?_
  refine Ch.nil ?_
  refine Fin.go ?_
  refine Tr.seq ?_
  refine Tr.reg0 ?_
  refine Ch.op rfl rfl (by decide) (ok_move rfl (vl rfl)) ?_
  refine Ch.op rfl rfl (by decide) (ok_move rfl (vl rfl)) ?_
  refine Ch.op rfl rfl (by decide) (ok_move rfl (vl rfl)) ?_
  refine Ch.op rfl rfl (by decide) (ok_move rfl (vl rfl)) ?_
  refine Ch.op rfl rfl (by decide) (ok_call rfl (w_order2Asc (by assumption) (by omega) (by omega) (by omega)) ⟨⟨_, rfl, Pr.le_refl _⟩, ⟨_, rfl, Pr.le_refl _⟩, ⟨_, rfl, Pr.le_refl _⟩, ⟨_, rfl, le_any _⟩, trivial⟩) ?_
  refine Ch.op rfl rfl (by decide) (ok_move rfl (vl rfl)) ?_
  refine Ch.op rfl rfl (by decide) (ok_extract rfl (vl rfl) rfl) ?_
  refine Ch.op rfl rfl (by decide) (ok_extract rfl (vl rfl) rfl) ?_
  refine Ch.op rfl rfl (by decide) (ok_assign rfl (vl rfl)) ?_
  refine Ch.op rfl rfl (by decide) (ok_assign rfl (vl rfl)) ?_
  refine Ch.nil ?_
  refine Fin.go ?_
  refine Tr.seq ?_
  refine Tr.reg0 ?_
  refine Ch.op rfl rfl (by decide) (ok_move rfl (vl rfl)) ?_
  refine Ch.op rfl rfl (by decide) (ok_move rfl (vl rfl)) ?_
  refine Ch.op rfl rfl (by decide) (ok_move rfl (vl rfl)) ?_
  refine Ch.op rfl rfl (by decide) (ok_move rfl (vl rfl)) ?_
  refine Ch.op rfl rfl (by decide) (ok_call rfl (w_order2Asc (by assumption) (by omega) (by omega) (by omega)) ⟨⟨_, rfl, Pr.le_refl _⟩, ⟨_, rfl, Pr.le_refl _⟩, ⟨_, rfl, Pr.le_refl _⟩, ⟨_, rfl, le_any _⟩, trivial⟩) ?_
  refine Ch.op rfl rfl (by decide) (ok_move rfl (vl rfl)) ?_
  refine Ch.op rfl rfl (by decide) (ok_extract rfl (vl rfl) rfl) ?_
  refine Ch.op rfl rfl (by decide) (ok_extract rfl (vl rfl) rfl) ?_
  refine Ch.op rfl rfl (by decide) (ok_assign rfl (vl rfl)) ?_
  refine Ch.op rfl rfl (by decide) (ok_assign rfl (vl rfl)) ?_
  refine Ch.nil ?_
  refine Fin.go ?_
  refine Tr.weak [(0, _), (1, _), (2, _), (4, _)] ⟨⟨_, rfl, Pr.le_refl _⟩, ⟨_, rfl, Pr.le_refl _⟩, ⟨_, rfl, Pr.le_refl _⟩, ⟨_, rfl, Pr.le_refl _⟩, trivial⟩ ?_
  refine Tr.seq ?_
  refine Tr.reg0 ?_
  refine Ch.op rfl rfl (by decide) (ok_move rfl (vl rfl)) ?_
  refine Ch.op rfl rfl (by decide) (ok_move rfl (vl rfl)) ?_
  refine Ch.op rfl rfl (by decide) (ok_move rfl (vl rfl)) ?_
  refine Ch.op rfl rfl (by decide) (ok_move rfl (vl rfl)) ?_
  refine Ch.op rfl rfl (by decide) (ok_call rfl (w_order2Asc (by assumption) (by omega) (by omega) (by omega)) ⟨⟨_, rfl, Pr.le_refl _⟩, ⟨_, rfl, Pr.le_refl _⟩, ⟨_, rfl, Pr.le_refl _⟩, ⟨_, rfl, le_any _⟩, trivial⟩) ?_
  refine Ch.op rfl rfl (by decide) (ok_move rfl (vl rfl)) ?_
  refine Ch.op rfl rfl (by decide) (ok_extract rfl (vl rfl) rfl) ?_
  refine Ch.op rfl rfl (by decide) (ok_extract rfl (vl rfl) rfl) ?_
  refine Ch.op rfl rfl (by decide) (ok_assign rfl (vl rfl)) ?_
  refine Ch.op rfl rfl (by decide) (ok_assign rfl (vl rfl)) ?_
  refine Ch.nil ?_
  refine Fin.go ?_
  refine Tr.weak [(2, _)] ⟨⟨_, rfl, Pr.le_refl _⟩, trivial⟩ ?_
  refine Tr.seq ?_
  refine Tr.reg0 ?_
  refine Ch.op rfl rfl (by decide) (ok_move rfl (vl rfl)) ?_
  refine Ch.op rfl rfl (by decide) (ok_assign rfl (vl rfl)) ?_
  refine Ch.nil ?_
  refine Fin.go ?_
  refine Tr.ret ?_
  refine Fin.ret1 rfl (OutW.bse _ _) rfl ?_
  · first | exact Pr.le_refl _ | (refine int_eq ?_; simp_all; done) | (refine bool_eq ?_; simp_all; done) | (refine bool_eq ?_; simp_all; omega) | (refine int_eq ?_; omega)
theorem e_medAsc : Entry Tryz.prog 156 := ⟨_, Tryz.func156, rfl, rfl⟩
set_option maxRecDepth 20000 in
theorem w_pivAsc {l : List Int} {a b : Int} (hl : Asc l) (h0 : 0 ≤ a) (h8 : 8 ≤ b - a) (h50 : b - a < 50) (hb : b ≤ l.length) (hs : l.length ≤ 1000000) : Fun Tryz.prog 128 [ints l, int a, int b] (tup [any, int 1]) := by
  refine Fun.of Tryz.func128 rfl rfl (by exact Nat.le_of_ble_eq_true rfl) fun M0 w0 => ?_
  have hq : IntKind.i64.wrap ((b - a).tdiv 4) = (b - a) / 4 := by rw [Int.tdiv_eq_ediv_of_nonneg (by omega)]; exact IntWalk.i64_in _ ⟨by omega, by omega⟩
  refine Tr.seq ?_
  refine Tr.reg0 ?_
  refine Ch.op rfl rfl (by decide) (ok_assign rfl (vl rfl)) ?_
  refine Ch.op rfl rfl (by decide) (ok_assign rfl (vl rfl)) ?_
  refine Ch.nil ?_
  refine Fin.go ?_
  refine Tr.seq ?_
  refine Tr.reg0 ?_
  refine Ch.op rfl rfl (by decide) (ok_move rfl (vl rfl)) ?_
  refine Ch.op rfl rfl (by decide) (ok_move rfl (vl rfl)) ?_
  first
    | (refine Ch.op rfl rfl (by decide) (ok_sub rfl (vl rfl) (vl rfl) ?hin) ?_; case hin => unfold InI; omega)
    | refine Ch.op rfl rfl (by decide) (ok_int rfl (vl rfl) (vl rfl) rfl) ?_
  refine Ch.op rfl rfl (by decide) (ok_assign rfl (vl rfl)) ?_
  refine Ch.nil ?_
  refine Fin.go ?_
  refine Tr.seq ?_
  refine Tr.regT ?_
  refine TO.alloc rfl rfl (by decide) rfl z3 zo3 (fun b1 => ?_)
  refine TO.nil ?_
  refine Fin.go ?_
  refine Tr.seq ?_
  refine Tr.reg0 ?_
  refine Ch.op rfl rfl (by decide) (ok_move rfl (vl rfl)) ?_
  refine Ch.op rfl rfl (by decide) (ok_move rfl (vl rfl)) ?_
  refine Ch.op rfl rfl (by decide) (ok_quo rfl (vl rfl) (vl rfl) (by omega)) ?_
  first
    | (refine Ch.op rfl rfl (by decide) (ok_mul rfl (vl rfl) (vl rfl) ?hin) ?_; case hin => unfold InI; omega)
    | refine Ch.op rfl rfl (by decide) (ok_int rfl (vl rfl) (vl rfl) rfl) ?_
  first
    | (refine Ch.op rfl rfl (by decide) (ok_add rfl (vl rfl) (vl rfl) ?hin) ?_; case hin => unfold InI; omega)
    | refine Ch.op rfl rfl (by decide) (ok_int rfl (vl rfl) (vl rfl) rfl) ?_
  refine Ch.op rfl rfl (by decide) (ok_assign rfl (vl rfl)) ?_
  refine Ch.nil ?_
  refine Fin.go ?_
  refine Tr.weak [(0, _), (1, _), (8, _), (9, _), (10, _)] ⟨⟨_, rfl, Pr.le_refl _⟩, ⟨_, rfl, Pr.le_refl _⟩, ⟨_, rfl, Pr.le_refl _⟩, ⟨_, rfl, Pr.le_refl _⟩, ⟨_, rfl, Pr.le_refl _⟩, trivial⟩ ?_
  refine Tr.seq ?_
  refine Tr.reg0 ?_
  refine Ch.op rfl rfl (by decide) (ok_move rfl (vl rfl)) ?_
  refine Ch.op rfl rfl (by decide) (ok_move rfl (vl rfl)) ?_
  refine Ch.op rfl rfl (by decide) (ok_quo rfl (vl rfl) (vl rfl) (by omega)) ?_
  first
    | (refine Ch.op rfl rfl (by decide) (ok_mul rfl (vl rfl) (vl rfl) ?hin) ?_; case hin => unfold InI; omega)
    | refine Ch.op rfl rfl (by decide) (ok_int rfl (vl rfl) (vl rfl) rfl) ?_
  first
    | (refine Ch.op rfl rfl (by decide) (ok_add rfl (vl rfl) (vl rfl) ?hin) ?_; case hin => unfold InI; omega)
    | refine Ch.op rfl rfl (by decide) (ok_int rfl (vl rfl) (vl rfl) rfl) ?_
  refine Ch.op rfl rfl (by decide) (ok_assign rfl (vl rfl)) ?_
  refine Ch.nil ?_
  refine Fin.go ?_
  refine Tr.seq ?_
  refine Tr.reg0 ?_
  refine Ch.op rfl rfl (by decide) (ok_move rfl (vl rfl)) ?_
  refine Ch.op rfl rfl (by decide) (ok_move rfl (vl rfl)) ?_
  refine Ch.op rfl rfl (by decide) (ok_quo rfl (vl rfl) (vl rfl) (by omega)) ?_
  first
    | (refine Ch.op rfl rfl (by decide) (ok_mul rfl (vl rfl) (vl rfl) ?hin) ?_; case hin => unfold InI; omega)
    | refine Ch.op rfl rfl (by decide) (ok_int rfl (vl rfl) (vl rfl) rfl) ?_
  first
    | (refine Ch.op rfl rfl (by decide) (ok_add rfl (vl rfl) (vl rfl) ?hin) ?_; case hin => unfold InI; omega)
    | refine Ch.op rfl rfl (by decide) (ok_int rfl (vl rfl) (vl rfl) rfl) ?_
  refine Ch.op rfl rfl (by decide) (ok_assign rfl (vl rfl)) ?_
  refine Ch.nil ?_
  refine Fin.go ?_
  refine Tr.weak [(0, _), (8, _), (9, _), (10, _), (11, _), (12, _)] ⟨⟨_, rfl, Pr.le_refl _⟩, ⟨_, rfl, Pr.le_refl _⟩, ⟨_, rfl, Pr.le_refl _⟩, ⟨_, rfl, Pr.le_refl _⟩, ⟨_, rfl, Pr.le_refl _⟩, ⟨_, rfl, Pr.le_refl _⟩, trivial⟩ ?_
  refine Tr.seq ?_
  refine Tr.seq ?_
  refine Tr.reg0 ?_
  refine Ch.op rfl rfl (by decide) (ok_move rfl (vl rfl)) ?_
  refine Ch.op rfl rfl (by decide) (ok_int rfl (vl rfl) (vl rfl) rfl) ?_
  refine Ch.nil ?_
  refine Fin.go ?_
  refine Tr.cond rfl (fun h1 => ?_) (fun h1 => ?_)
  ·
    have q1 := Nrm.nrm h1
    refine Tr.seq ?_
    refine Tr.seq ?_
    refine Tr.reg0 ?_
    refine Ch.op rfl rfl (by decide) (ok_move rfl (vl rfl)) ?_
    refine Ch.op rfl rfl (by decide) (ok_int rfl (vl rfl) (vl rfl) rfl) ?_
    refine Ch.nil ?_
    refine Fin.go ?_
    refine Tr.cond rfl (fun h2 => ?_) (fun h2 => ?_)
    ·
      have q2 := Nrm.nrm h2
      exfalso; omega
    ·
      have q2 := Nrm.nrm h2
      refine Tr.skip ?_
      refine Fin.go ?_
      refine Tr.reg0 ?_
      refine Ch.op rfl rfl (by decide) (ok_move rfl (vl rfl)) ?_
      refine Ch.op rfl rfl (by decide) (ok_move rfl (vl rfl)) ?_
      refine Ch.op rfl rfl (by decide) (ok_move rfl (vl rfl)) ?_
      refine Ch.op rfl rfl (by decide) (ok_move rfl (vl rfl)) ?_
      refine Ch.op rfl rfl (by decide) (ok_call rfl (w_medAsc (by assumption) (by omega) (by omega) (by omega) (by omega)) ⟨⟨_, rfl, Pr.le_refl _⟩, ⟨_, rfl, Pr.le_refl _⟩, ⟨_, rfl, Pr.le_refl _⟩, ⟨_, rfl, Pr.le_refl _⟩, ⟨_, rfl, le_any _⟩, trivial⟩) ?_
      refine Ch.op rfl rfl (by decide) (ok_assign rfl (vl rfl)) ?_
      refine Ch.nil ?_
      refine Fin.go ?_
      refine Tr.weak [(9, _), (11, _)] ⟨⟨_, rfl, Pr.le_refl _⟩, ⟨_, rfl, Pr.le_refl _⟩, trivial⟩ ?_
      refine Tr.seq ?_
      refine Tr.reg0 ?_
      refine Ch.op rfl rfl (by decide) (ok_rd 0 rfl (rd_load1 rfl one3 (vl rfl) rfl)) ?_
      refine Ch.nil ?_
      refine Fin.go ?_
      refine Tr.drop 0 ?_
      refine Tr.block ?_
      refine Tr.seq ?_
      refine Tr.reg0 ?_
      refine Ch.op rfl rfl (by decide) (ok_int rfl (vl rfl) (vl rfl) rfl) ?_
      refine Ch.op rfl rfl (by decide) (ok_assign rfl (vl rfl)) ?_
      refine Ch.nil ?_
      refine Fin.go ?_
      refine Tr.cond rfl (fun h3 => ?_) (fun h3 => ?_)
      ·
        have q3 := Nrm.nrm h3
        refine Tr.seq ?_
        refine Tr.reg0 ?_
        refine Ch.op rfl rfl (by decide) (ok_move rfl (vl rfl)) ?_
        refine Ch.op rfl rfl (by decide) (ok_assign rfl (vl rfl)) ?_
        refine Ch.op rfl rfl (by decide) (ok_assign rfl (vl rfl)) ?_
        refine Ch.nil ?_
        refine Fin.go ?_
        refine Tr.ret ?_
        refine Fin.block_ret ?_
        refine Fin.ret2 rfl (OutW.bse _ _) rfl ?_ rfl ?_
        · exact le_any _
        · first | exact Pr.le_refl _ | (refine int_eq ?_; simp_all; done) | (refine bool_eq ?_; simp_all; done) | (refine bool_eq ?_; simp_all; omega) | (refine int_eq ?_; omega)
      ·
        have q3 := Nrm.nrm h3
        exfalso; simp at h3
  ·
    have q1 := Nrm.nrm h1
    exfalso; omega
theorem e_pivAsc : Entry Tryz.prog 128 := ⟨_, Tryz.func128, rfl, rfl⟩
set_option maxRecDepth 20000 in
theorem w_partAsc {l : List Int} {a b : Int} (hl : Asc l) (h0 : 0 ≤ a) (hab : a < b) (hb : b ≤ l.length) (hs : l.length ≤ 1000000) : Fun Tryz.prog 130 [ints l, int a, int b] (bool true) := by
  refine Fun.of Tryz.func130 rfl rfl (by exact Nat.le_of_ble_eq_true rfl) fun M0 w0 => ?_
  refine Tr.seq ?_
  refine Tr.reg0 ?_
  refine Ch.op rfl rfl (by decide) (ok_assign rfl (vl rfl)) ?_
  refine Ch.nil ?_
  refine Fin.go ?_
  refine Tr.seq ?_
  refine Tr.reg0 ?_
  refine Ch.op rfl rfl (by decide) (ok_move rfl (vl rfl)) ?_
  first
    | (refine Ch.op rfl rfl (by decide) (ok_add rfl (vl rfl) (vl rfl) ?hin) ?_; case hin => unfold InI; omega)
    | refine Ch.op rfl rfl (by decide) (ok_int rfl (vl rfl) (vl rfl) rfl) ?_
  refine Ch.op rfl rfl (by decide) (ok_assign rfl (vl rfl)) ?_
  refine Ch.nil ?_
  refine Fin.go ?_
  refine Tr.seq ?_
  refine Tr.seq ?_
  refine Tr.reg0 ?_
  refine Ch.op rfl rfl (by decide) (ok_assign rfl (vl rfl)) ?_
  refine Ch.nil ?_
  refine Fin.go ?_
  refine Tr.block ?_
  refine Tr.loopw [(0, _), (1, _), (2, _)] ⟨⟨_, rfl, Pr.le_refl _⟩, ⟨_, rfl, Pr.le_refl _⟩, ⟨_, rfl, Pr.le_refl _⟩, trivial⟩ (fun (u : Unit) => [(7, int (a + 1)), (8, int 0)]) (fun (u : Unit) => True) (fun (u : Unit) => 0) () (trivial) ⟨⟨_, rfl, Pr.le_refl _⟩, ⟨_, rfl, Pr.le_refl _⟩, trivial⟩ ?_
  rintro u _
  refine Tr.seq ?_
  refine Tr.seq ?_
  refine Tr.reg0 ?_
  refine Ch.op rfl rfl (by decide) (ok_move rfl (vl rfl)) ?_
  refine Ch.op rfl rfl (by decide) (ok_int rfl (vl rfl) (vl rfl) rfl) ?_
  refine Ch.nil ?_
  refine Fin.go ?_
  refine Tr.cond rfl (fun h1 => ?_) (fun h1 => ?_)
  ·
    have q1 := Nrm.nrm h1
    have := h1
    refine Tr.skip ?_
    refine Fin.go ?_
    refine Tr.seq ?_
    refine Tr.block ?_
    refine Tr.seq ?_
    refine Tr.block ?_
    refine Tr.loopw [(0, _), (1, _), (2, _), (8, _)] ⟨⟨_, rfl, Pr.le_refl _⟩, ⟨_, rfl, Pr.le_refl _⟩, ⟨_, rfl, Pr.le_refl _⟩, ⟨_, rfl, Pr.le_refl _⟩, trivial⟩ (fun i : Int => [(7, int i)]) (fun i : Int => a < i ∧ i ≤ b) (fun i : Int => (b - i).toNat) (a + 1) (⟨by omega, by omega⟩) ⟨⟨_, rfl, Pr.le_refl _⟩, trivial⟩ ?_
    rintro i ⟨hi1, hi2⟩
    refine Tr.seq ?_
    refine Tr.seq ?_
    refine Tr.reg1 mixed (by kernel_rfl) ?_
    refine Ch.op rfl rfl (by decide) (ok_move rfl (vl rfl)) ?_
    refine Ch.op rfl rfl (by decide) (ok_move rfl (vl rfl)) ?_
    refine Ch.op rfl rfl (by decide) (ok_int rfl (vl rfl) (vl rfl) rfl) ?_
    refine Ch.op rfl rfl (by decide) (ok_move rfl (vl rfl)) ?_
    refine Ch.cases 20 rfl (fun h2 => ?_) (fun h2 => ?_)
    ·
      have q2 := Nrm.nrm h2
      obtain ⟨x, hx⟩ := at_ (l := l) (k := i.toNat) (by omega)
      obtain ⟨p, hp⟩ := at_ (l := l) (k := (i - 1).toNat) (by omega)
      have hpx := asc_at hl (by omega) hp hx
      refine Ch.yes rfl rfl rfl h2 rfl (by decide) (ok_move rfl (vl rfl)) ?_
      refine Ch.yes rfl rfl rfl h2 rfl (by decide) (ok_move rfl (vl rfl)) ?_
      refine Ch.yes rfl rfl rfl h2 rfl (by decide) (ok_indexAddr rfl Tryz.underlying22 sz3 (vl rfl) (vl rfl) (by omega) (at_int hx)) ?_
      refine Ch.yes rfl rfl rfl h2 rfl (by decide) (ok_load1 rfl one3 (vl rfl)) ?_
      refine Ch.yes rfl rfl rfl h2 rfl (by decide) (ok_move rfl (vl rfl)) ?_
      refine Ch.yes rfl rfl rfl h2 rfl (by decide) (ok_move rfl (vl rfl)) ?_
      first
        | (refine Ch.yes rfl rfl rfl h2 rfl (by decide) (ok_sub rfl (vl rfl) (vl rfl) ?hin) ?_; case hin => unfold InI; omega)
        | refine Ch.yes rfl rfl rfl h2 rfl (by decide) (ok_int rfl (vl rfl) (vl rfl) rfl) ?_
      refine Ch.yes rfl rfl rfl h2 rfl (by decide) (ok_indexAddr rfl Tryz.underlying22 sz3 (vl rfl) (vl rfl) (by omega) (pred_int (by omega) hp)) ?_
      refine Ch.yes rfl rfl rfl h2 rfl (by decide) (ok_load1 rfl one3 (vl rfl)) ?_
      refine Ch.yes rfl rfl rfl h2 rfl (by decide) (ok_call rfl (w_lessI) ⟨⟨_, rfl, Pr.le_refl _⟩, ⟨_, rfl, Pr.le_refl _⟩, trivial⟩) ?_
      refine Ch.yes rfl rfl rfl h2 rfl (by decide) (ok_not rfl (vl rfl)) ?_
      refine Ch.op rfl rfl (by decide) (ok_pick_t rfl (vl rfl) h2 (vl rfl)) ?_
      refine Ch.nil ?_
      refine Fin.go ?_
      refine Tr.weak [(0, _), (1, _), (2, _), (7, _), (8, _), (32, _)] ⟨⟨_, rfl, Pr.le_refl _⟩, ⟨_, rfl, Pr.le_refl _⟩, ⟨_, rfl, Pr.le_refl _⟩, ⟨_, rfl, Pr.le_refl _⟩, ⟨_, rfl, Pr.le_refl _⟩, ⟨_, rfl, Pr.le_refl _⟩, trivial⟩ ?_
      refine Tr.cond rfl (fun h3 => ?_) (fun h3 => ?_)
      ·
        have q3 := Nrm.nrm h3
        have := h3
        refine Tr.skip ?_
        refine Fin.go ?_
        refine Tr.block ?_
        refine Tr.reg0 ?_
        refine Ch.op rfl rfl (by decide) (ok_move rfl (vl rfl)) ?_
        first
          | (refine Ch.op rfl rfl (by decide) (ok_add rfl (vl rfl) (vl rfl) ?hin) ?_; case hin => unfold InI; omega)
          | refine Ch.op rfl rfl (by decide) (ok_int rfl (vl rfl) (vl rfl) rfl) ?_
        refine Ch.op rfl rfl (by decide) (ok_assign rfl (vl rfl)) ?_
        refine Ch.nil ?_
        refine Fin.block ?_
        exact Fin.fam_same (i + 1) ⟨⟨by omega, by omega⟩, by omega⟩ ⟨⟨_, rfl, Pr.le_refl _⟩, ⟨_, rfl, Pr.le_refl _⟩, ⟨_, rfl, Pr.le_refl _⟩, ⟨_, rfl, Pr.le_refl _⟩, ⟨_, rfl, Pr.le_refl _⟩, trivial⟩
      ·
        have q3 := Nrm.nrm h3
        have := h3
        have hib : i = b := by first | omega | (simp at h3; omega)
        refine Tr.exit ?_
        refine Fin.then_exit ?_
        refine Fin.then_exit ?_
        refine Fin.block_here ?_
        refine Fin.go ?_
        refine Tr.seq ?_
        refine Tr.seq ?_
        refine Tr.reg0 ?_
        refine Ch.op rfl rfl (by decide) (ok_move rfl (vl rfl)) ?_
        refine Ch.op rfl rfl (by decide) (ok_move rfl (vl rfl)) ?_
        refine Ch.op rfl rfl (by decide) (ok_int rfl (vl rfl) (vl rfl) rfl) ?_
        refine Ch.nil ?_
        refine Fin.go ?_
        refine Tr.cond rfl (fun h4 => ?_) (fun h4 => ?_)
        ·
          have q4 := Nrm.nrm h4
          refine Tr.seq ?_
          refine Tr.reg0 ?_
          refine Ch.op rfl rfl (by decide) (ok_assign rfl (vl rfl)) ?_
          refine Ch.nil ?_
          refine Fin.go ?_
          refine Tr.ret ?_
          refine Fin.then_ret ?_
          refine Fin.block_ret ?_
          refine Fin.then_ret ?_
          refine Fin.then_ret ?_
          refine Fin.block_ret ?_
          refine Fin.then_ret ?_
          refine Fin.ret1 rfl (OutW.bse _ _) rfl ?_
          · first | exact Pr.le_refl _ | (refine int_eq ?_; simp_all; done) | (refine bool_eq ?_; simp_all; done) | (refine bool_eq ?_; simp_all; omega) | (refine int_eq ?_; omega)
        ·
          have q4 := Nrm.nrm h4
          exfalso; omega
    ·
      have q2 := Nrm.nrm h2
      refine Ch.no rfl rfl rfl (ne_true h2) rfl (by decide) ?_
      refine Ch.no rfl rfl rfl (ne_true h2) rfl (by decide) ?_
      refine Ch.no rfl rfl rfl (ne_true h2) rfl (by decide) ?_
      refine Ch.no rfl rfl rfl (ne_true h2) rfl (by decide) ?_
      refine Ch.no rfl rfl rfl (ne_true h2) rfl (by decide) ?_
      refine Ch.no rfl rfl rfl (ne_true h2) rfl (by decide) ?_
      refine Ch.no rfl rfl rfl (ne_true h2) rfl (by decide) ?_
      refine Ch.no rfl rfl rfl (ne_true h2) rfl (by decide) ?_
      refine Ch.no rfl rfl rfl (ne_true h2) rfl (by decide) ?_
      refine Ch.no rfl rfl rfl (ne_true h2) rfl (by decide) ?_
      refine Ch.no rfl rfl rfl (ne_true h2) rfl (by decide) ?_
      refine Ch.op rfl rfl (by decide) (ok_pick_f rfl (vl rfl) h2 (vl rfl)) ?_
      refine Ch.nil ?_
      refine Fin.go ?_
      refine Tr.weak [(0, _), (1, _), (2, _), (7, _), (8, _), (32, _)] ⟨⟨_, rfl, Pr.le_refl _⟩, ⟨_, rfl, Pr.le_refl _⟩, ⟨_, rfl, Pr.le_refl _⟩, ⟨_, rfl, Pr.le_refl _⟩, ⟨_, rfl, Pr.le_refl _⟩, ⟨_, rfl, Pr.le_refl _⟩, trivial⟩ ?_
      refine Tr.cond rfl (fun h => nomatch h) (fun _ => ?_)
      refine Tr.exit ?_
      refine Fin.then_exit ?_
      refine Fin.then_exit ?_
      refine Fin.block_here ?_
      refine Fin.go ?_
      refine Tr.seq ?_
      refine Tr.seq ?_
      refine Tr.reg0 ?_
      refine Ch.op rfl rfl (by decide) (ok_move rfl (vl rfl)) ?_
      refine Ch.op rfl rfl (by decide) (ok_move rfl (vl rfl)) ?_
      refine Ch.op rfl rfl (by decide) (ok_int rfl (vl rfl) (vl rfl) rfl) ?_
      refine Ch.nil ?_
      refine Fin.go ?_
      refine Tr.cond rfl (fun h5 => ?_) (fun h5 => ?_)
      ·
        have q5 := Nrm.nrm h5
        refine Tr.seq ?_
        refine Tr.reg0 ?_
        refine Ch.op rfl rfl (by decide) (ok_assign rfl (vl rfl)) ?_
        refine Ch.nil ?_
        refine Fin.go ?_
        refine Tr.ret ?_
        refine Fin.then_ret ?_
        refine Fin.block_ret ?_
        refine Fin.then_ret ?_
        refine Fin.then_ret ?_
        refine Fin.block_ret ?_
        refine Fin.then_ret ?_
        refine Fin.ret1 rfl (OutW.bse _ _) rfl ?_
        · first | exact Pr.le_refl _ | (refine int_eq ?_; simp_all; done) | (refine bool_eq ?_; simp_all; done) | (refine bool_eq ?_; simp_all; omega) | (refine int_eq ?_; omega)
      ·
        have q5 := Nrm.nrm h5
        exfalso; omega
  ·
    have q1 := Nrm.nrm h1
    have := h1
    exfalso; omega
theorem e_partAsc : Entry Tryz.prog 130 := ⟨_, Tryz.func130, rfl, rfl⟩
set_option maxRecDepth 20000 in
theorem w_pdqAsc24 {l : List Int} {a b : Int} (hl : Asc l) (h0 : 0 ≤ a) (hb : b ≤ l.length) (hab : 13 ≤ b - a) (hs : b - a < 50) (hs2 : l.length ≤ 1000000) : Fun Tryz.prog 87 [ints l, int a, int b, ex fun k : Int => fact (¬ k = 0) (int k)] (unit_) := by
  refine Fun.of Tryz.func87 rfl rfl (by exact Nat.le_of_ble_eq_true rfl) fun M0 w0 => ?_
  refine Tr.ex 3 rfl (fun lim => Tr.fact 3 rfl fun hlim => ?_)
  refine Tr.seq ?_
  refine Tr.reg0 ?_
  refine Ch.op rfl rfl (by decide) (ok_assign rfl (vl rfl)) ?_
  refine Ch.nil ?_
  refine Fin.go ?_
  refine Tr.seq ?_
  refine Tr.reg0 ?_
  refine Ch.op rfl rfl (by decide) (ok_assign rfl (vl rfl)) ?_
  refine Ch.nil ?_
  refine Fin.go ?_
  refine Tr.block ?_
  refine Tr.loopw [(0, _)] ⟨⟨_, rfl, Pr.le_refl _⟩, trivial⟩ (fun (u : Unit) => [(1, int a), (2, int b), (3, int lim), (8, bool true), (9, bool true)]) (fun (u : Unit) => True) (fun (u : Unit) => 0) () (trivial) ⟨⟨_, rfl, Pr.le_refl _⟩, ⟨_, rfl, Pr.le_refl _⟩, ⟨_, rfl, Pr.le_refl _⟩, ⟨_, rfl, Pr.le_refl _⟩, ⟨_, rfl, Pr.le_refl _⟩, trivial⟩ ?_
  rintro u _
  refine Tr.block ?_
  refine Tr.seq ?_
  refine Tr.reg0 ?_
  refine Ch.op rfl rfl (by decide) (ok_move rfl (vl rfl)) ?_
  refine Ch.op rfl rfl (by decide) (ok_move rfl (vl rfl)) ?_
  first
    | (refine Ch.op rfl rfl (by decide) (ok_sub rfl (vl rfl) (vl rfl) ?hin) ?_; case hin => unfold InI; omega)
    | refine Ch.op rfl rfl (by decide) (ok_int rfl (vl rfl) (vl rfl) rfl) ?_
  refine Ch.op rfl rfl (by decide) (ok_assign rfl (vl rfl)) ?_
  refine Ch.nil ?_
  refine Fin.go ?_
  refine Tr.seq ?_
  refine Tr.seq ?_
  refine Tr.reg0 ?_
  refine Ch.op rfl rfl (by decide) (ok_move rfl (vl rfl)) ?_
  refine Ch.op rfl rfl (by decide) (ok_int rfl (vl rfl) (vl rfl) rfl) ?_
  refine Ch.nil ?_
  refine Fin.go ?_
  refine Tr.cond rfl (fun h1 => ?_) (fun h1 => ?_)
  ·
    have q1 := Nrm.nrm h1
    exfalso; omega
  ·
    have q1 := Nrm.nrm h1
    refine Tr.skip ?_
    refine Fin.go ?_
    refine Tr.seq ?_
    refine Tr.seq ?_
    refine Tr.reg0 ?_
    refine Ch.op rfl rfl (by decide) (ok_move rfl (vl rfl)) ?_
    refine Ch.op rfl rfl (by decide) (ok_int rfl (vl rfl) (vl rfl) rfl) ?_
    refine Ch.nil ?_
    refine Fin.go ?_
    refine Tr.weak [(0, _), (1, _), (2, _), (3, _), (8, _), (9, _), (10, _), (29, _)] ⟨⟨_, rfl, Pr.le_refl _⟩, ⟨_, rfl, Pr.le_refl _⟩, ⟨_, rfl, Pr.le_refl _⟩, ⟨_, rfl, Pr.le_refl _⟩, ⟨_, rfl, Pr.le_refl _⟩, ⟨_, rfl, Pr.le_refl _⟩, ⟨_, rfl, Pr.le_refl _⟩, ⟨_, rfl, Pr.le_refl _⟩, trivial⟩ ?_
    refine Tr.cond rfl (fun h2 => ?_) (fun h2 => ?_)
    ·
      have q2 := Nrm.nrm h2
      exfalso; omega
    ·
      have q2 := Nrm.nrm h2
      refine Tr.skip ?_
      refine Fin.go ?_
      refine Tr.seq ?_
      refine Tr.seq ?_
      refine Tr.reg0 ?_
      refine Ch.op rfl rfl (by decide) (ok_move rfl (vl rfl)) ?_
      refine Ch.op rfl rfl (by decide) (ok_not rfl (vl rfl)) ?_
      refine Ch.nil ?_
      refine Fin.go ?_
      refine Tr.cond rfl (fun h3 => ?_) (fun h3 => ?_)
      ·
        have q3 := Nrm.nrm h3
        exfalso; simp at h3
      ·
        have q3 := Nrm.nrm h3
        refine Tr.skip ?_
        refine Fin.go ?_
        refine Tr.seq ?_
        refine Tr.reg0 ?_
        refine Ch.op rfl rfl (by decide) (ok_move rfl (vl rfl)) ?_
        refine Ch.op rfl rfl (by decide) (ok_move rfl (vl rfl)) ?_
        refine Ch.op rfl rfl (by decide) (ok_move rfl (vl rfl)) ?_
        refine Ch.op rfl rfl (by decide) (ok_call rfl (w_pivAsc (by assumption) (by omega) (by omega) (by omega) (by omega) (by omega)) ⟨⟨_, rfl, Pr.le_refl _⟩, ⟨_, rfl, Pr.le_refl _⟩, ⟨_, rfl, Pr.le_refl _⟩, trivial⟩) ?_
        refine Ch.op rfl rfl (by decide) (ok_move rfl (vl rfl)) ?_
        refine Ch.op rfl rfl (by decide) (ok_extract rfl (vl rfl) rfl) ?_
        refine Ch.op rfl rfl (by decide) (ok_extract rfl (vl rfl) rfl) ?_
        refine Ch.op rfl rfl (by decide) (ok_assign rfl (vl rfl)) ?_
        refine Ch.op rfl rfl (by decide) (ok_assign rfl (vl rfl)) ?_
        refine Ch.nil ?_
        refine Fin.go ?_
        refine Tr.weak [(0, _), (1, _), (2, _), (3, _), (8, _), (9, _), (10, _), (11, _), (12, _)] ⟨⟨_, rfl, Pr.le_refl _⟩, ⟨_, rfl, Pr.le_refl _⟩, ⟨_, rfl, Pr.le_refl _⟩, ⟨_, rfl, Pr.le_refl _⟩, ⟨_, rfl, Pr.le_refl _⟩, ⟨_, rfl, Pr.le_refl _⟩, ⟨_, rfl, Pr.le_refl _⟩, ⟨_, rfl, Pr.le_refl _⟩, ⟨_, rfl, Pr.le_refl _⟩, trivial⟩ ?_
        refine Tr.seq ?_
        refine Tr.seq ?_
        refine Tr.reg0 ?_
        refine Ch.op rfl rfl (by decide) (ok_move rfl (vl rfl)) ?_
        refine Ch.op rfl rfl (by decide) (ok_int rfl (vl rfl) (vl rfl) rfl) ?_
        refine Ch.nil ?_
        refine Fin.go ?_
        refine Tr.cond rfl (fun h4 => ?_) (fun h4 => ?_)
        ·
          have q4 := Nrm.nrm h4
          exfalso; simp at h4
        ·
          have q4 := Nrm.nrm h4
          refine Tr.skip ?_
          refine Fin.go ?_
          refine Tr.seq ?_
          refine Tr.seq ?_
          refine Tr.reg0 ?_
          refine Ch.op rfl rfl (by decide) (ok_move rfl (vl rfl)) ?_
          refine Ch.op rfl rfl (by decide) (ok_move rfl (vl rfl)) ?_
          refine Ch.cases 62 rfl (fun h5 => ?_) (fun h5 => ?_)
          ·
            have q5 := Nrm.nrm h5
            refine Ch.yes rfl rfl rfl h5 rfl (by decide) (ok_move rfl (vl rfl)) ?_
            refine Ch.op rfl rfl (by decide) (ok_pick_t rfl (vl rfl) h5 (vl rfl)) ?_
            refine Ch.op rfl rfl (by decide) (ok_move rfl (vl rfl)) ?_
            refine Ch.cases 65 rfl (fun h6 => ?_) (fun h6 => ?_)
            ·
              have q6 := Nrm.nrm h6
              refine Ch.yes rfl rfl rfl h6 rfl (by decide) (ok_move rfl (vl rfl)) ?_
              refine Ch.yes rfl rfl rfl h6 rfl (by decide) (ok_int rfl (vl rfl) (vl rfl) rfl) ?_
              refine Ch.op rfl rfl (by decide) (ok_pick_t rfl (vl rfl) h6 (vl rfl)) ?_
              refine Ch.nil ?_
              refine Fin.go ?_
              refine Tr.weak [(0, _), (1, _), (2, _), (3, _), (8, _), (9, _), (10, _), (11, _), (68, _)] ⟨⟨_, rfl, Pr.le_refl _⟩, ⟨_, rfl, Pr.le_refl _⟩, ⟨_, rfl, Pr.le_refl _⟩, ⟨_, rfl, Pr.le_refl _⟩, ⟨_, rfl, Pr.le_refl _⟩, ⟨_, rfl, Pr.le_refl _⟩, ⟨_, rfl, Pr.le_refl _⟩, ⟨_, rfl, Pr.le_refl _⟩, ⟨_, rfl, Pr.le_refl _⟩, trivial⟩ ?_
              refine Tr.cond rfl (fun h7 => ?_) (fun h7 => ?_)
              ·
                have q7 := Nrm.nrm h7
                refine Tr.seq ?_
                refine Tr.reg0 ?_
                refine Ch.op rfl rfl (by decide) (ok_move rfl (vl rfl)) ?_
                refine Ch.op rfl rfl (by decide) (ok_move rfl (vl rfl)) ?_
                refine Ch.op rfl rfl (by decide) (ok_move rfl (vl rfl)) ?_
                refine Ch.op rfl rfl (by decide) (ok_call rfl (w_partAsc (by assumption) (by omega) (by omega) (by omega) (by omega)) ⟨⟨_, rfl, Pr.le_refl _⟩, ⟨_, rfl, Pr.le_refl _⟩, ⟨_, rfl, Pr.le_refl _⟩, trivial⟩) ?_
                refine Ch.nil ?_
                refine Fin.go ?_
                refine Tr.cond rfl (fun h8 => ?_) (fun h8 => ?_)
                ·
                  have q8 := Nrm.nrm h8
                  refine Tr.ret ?_
                  refine Fin.then_ret ?_
                  refine Fin.block_ret ?_
                  refine Fin.then_ret ?_
                  refine Fin.block_ret ?_
                  exact Fin.ret0r rfl
                ·
                  have q8 := Nrm.nrm h8
                  exfalso; simp at h8
              ·
                have q7 := Nrm.nrm h7
                exfalso; simp at h7
            ·
              have q6 := Nrm.nrm h6
              exfalso; simp at h6
          ·
            have q5 := Nrm.nrm h5
            exfalso; simp at h5
theorem e_pdqAsc24 : Entry Tryz.prog 87 := ⟨_, Tryz.func87, rfl, rfl⟩
set_option maxRecDepth 20000 in
theorem w_SortAsc24 {l : List Int} (hl : Asc l) (hs : 13 ≤ l.length) (hs2 : l.length < 50) : Fun Tryz.prog 61 [ints l] (unit_) := by
  refine Fun.of Tryz.func61 rfl rfl (by exact Nat.le_of_ble_eq_true rfl) fun M0 w0 => ?_
  have hw : IntKind.u64.wrap ((l.length : Nat) : Int) = l.length := IntWalk.u64_in _ ⟨by omega, by omega⟩
  refine Tr.seq ?_
  refine Tr.reg0 ?_
  refine Ch.op rfl rfl (by decide) (ok_move rfl (vl rfl)) ?_
  first
    | refine Ch.op rfl rfl (by decide) (ok_lenm rfl Tryz.underlying22 (vl rfl)) ?_
    | refine Ch.op rfl rfl (by decide) (ok_len rfl Tryz.underlying22 (vl rfl)) ?_
  refine Ch.op rfl rfl (by decide) (ok_assign rfl (vl rfl)) ?_
  refine Ch.nil ?_
  refine Fin.go ?_
  refine Tr.reg0 ?_
  refine Ch.op rfl rfl (by decide) (ok_move rfl (vl rfl)) ?_
  refine Ch.op rfl rfl (by decide) (ok_move rfl (vl rfl)) ?_
  refine Ch.op rfl rfl (by decide) (ok_move rfl (vl rfl)) ?_
  first
    | refine Ch.op rfl rfl (by decide) (ok_convI rfl Tryz.underlying3 Tryz.underlying105 (vl rfl) (by unfold InI; omega)) ?_
    | refine Ch.op rfl rfl (by decide) (ok_conv rfl Tryz.underlying3 Tryz.underlying105 (vl rfl)) ?_
  refine Ch.op rfl rfl (by decide) (ok_call rfl (w_BLenp (by omega) (by omega)) ⟨⟨_, rfl, Pr.le_refl _⟩, trivial⟩) ?_
  refine Ch.op rfl rfl (by decide) (ok_call rfl (w_pdqAsc24 (l := l) (a := 0) (b := (l.length : Int)) hl (by omega) (by omega) (by omega) (by omega) (by omega)) ⟨⟨_, rfl, Pr.le_refl _⟩, ⟨_, rfl, Pr.le_refl _⟩, ⟨_, rfl, Pr.le_refl _⟩, ⟨_, rfl, Pr.le_refl _⟩, trivial⟩) ?_
  refine Ch.nil ?_
  exact Fin.ret0 rfl
theorem e_SortAsc24 : Entry Tryz.prog 61 := ⟨_, Tryz.func61, rfl, rfl⟩

theorem w_SortAll {l : List Int} (hl : Asc l) (hs : l.length < 50) : Fun Tryz.prog 61 [ints l] unit_ := by
  by_cases h : l.length ≤ 12
  · exact w_SortAsc hl h
  · exact w_SortAsc24 hl (by omega) hs

set_option maxRecDepth 20000 in
theorem w_indices48 {l : List Fnd} {n : Int} {own : List Int} (ha : Asc own) (hs : own.length < 50) : Fun Tryz.prog 35 [fnds l, entP n own] (tup [ints own, bool (decide (InR own l.length))]) := by
  refine Fun.of Tryz.func35 rfl rfl (by exact Nat.le_of_ble_eq_true rfl) fun M0 w0 => ?_
  refine Tr.lenm 0 rfl fun hlm_0 => ?_
  refine Tr.seq ?_
  refine Tr.reg0 ?_
  refine Ch.op rfl rfl (by decide) (ok_box rfl (VL.le (vl rfl) (agg_cellsP _))) ?_
  refine Ch.op rfl rfl (by decide) (ok_assign rfl (vl rfl)) ?_
  refine Ch.op rfl rfl (by decide) (ok_assign rfl (vl rfl)) ?_
  refine Ch.nil ?_
  refine Fin.go ?_
  refine Tr.seq ?_
  refine Tr.reg0 ?_
  refine Ch.op rfl rfl (by decide) (ok_fieldAddr rfl fo35_3 (vl rfl) rfl) ?_
  refine Ch.op rfl rfl (by decide) (ok_load1 rfl one22 (vl rfl)) ?_
  refine Ch.op rfl rfl (by decide) (ok_call rfl (w_CloneP (by omega)) ⟨⟨_, rfl, Pr.le_refl _⟩, trivial⟩) ?_
  refine Ch.op rfl rfl (by decide) (ok_assign rfl (vl rfl)) ?_
  refine Ch.nil ?_
  refine Fin.go ?_
  refine Tr.seq ?_
  refine Tr.reg0 ?_
  refine Ch.op rfl rfl (by decide) (ok_move rfl (vl rfl)) ?_
  refine Ch.op rfl rfl (by decide) (ok_call rfl (w_SortAll (by assumption) (by omega)) ⟨⟨_, rfl, Pr.le_refl _⟩, trivial⟩) ?_
  refine Ch.nil ?_
  refine Fin.go ?_
  refine Tr.seq ?_
  refine Tr.reg0 ?_
  refine Ch.op rfl rfl (by decide) (ok_move rfl (vl rfl)) ?_
  refine Ch.op rfl rfl (by decide) (ok_call rfl (w_CompAscI (by assumption) (by omega)) ⟨⟨_, rfl, Pr.le_refl _⟩, trivial⟩) ?_
  refine Ch.op rfl rfl (by decide) (ok_assign rfl (vl rfl)) ?_
  refine Ch.nil ?_
  refine Fin.go ?_
  refine Tr.seq ?_
  refine Tr.reg1 mixed (by kernel_rfl) ?_
  refine Ch.op rfl rfl (by decide) (ok_move rfl (vl rfl)) ?_
  refine Ch.op rfl rfl (by decide) (ok_move rfl (vl rfl)) ?_
  first
    | refine Ch.op rfl rfl (by decide) (ok_lenm rfl Tryz.underlying22 (vl rfl)) ?_
    | refine Ch.op rfl rfl (by decide) (ok_len rfl Tryz.underlying22 (vl rfl)) ?_
  refine Ch.op rfl rfl (by decide) (ok_int rfl (vl rfl) (vl rfl) rfl) ?_
  refine Ch.op rfl rfl (by decide) (ok_move rfl (vl rfl)) ?_
  refine Ch.cases 18 rfl (fun h1 => ?_) (fun h1 => ?_)
  ·
    have q1 := Nrm.nrm h1
    refine Ch.no rfl rfl rfl (ne_false h1) rfl (by decide) ?_
    refine Ch.no rfl rfl rfl (ne_false h1) rfl (by decide) ?_
    refine Ch.no rfl rfl rfl (ne_false h1) rfl (by decide) ?_
    refine Ch.no rfl rfl rfl (ne_false h1) rfl (by decide) ?_
    refine Ch.no rfl rfl rfl (ne_false h1) rfl (by decide) ?_
    refine Ch.un rfl rfl rfl rfl (by decide) ?_
    refine Ch.un rfl rfl rfl rfl (by decide) ?_
    refine Ch.un rfl rfl rfl rfl (by decide) ?_
    refine Ch.un rfl rfl rfl rfl (by decide) ?_
    refine Ch.un rfl rfl rfl rfl (by decide) ?_
    refine Ch.un rfl rfl rfl rfl (by decide) ?_
    refine Ch.un rfl rfl rfl rfl (by decide) ?_
    refine Ch.un rfl rfl rfl rfl (by decide) ?_
    refine Ch.un rfl rfl rfl rfl (by decide) ?_
    refine Ch.no rfl rfl rfl (ne_false h1) rfl (by decide) ?_
    refine Ch.op rfl rfl (by decide) (ok_pick_t rfl (vl rfl) h1 (vl rfl)) ?_
    refine Ch.op rfl rfl (by decide) (ok_assign rfl (vl rfl)) ?_
    refine Ch.op rfl rfl (by decide) (ok_assign rfl (vl rfl)) ?_
    refine Ch.nil ?_
    refine Fin.go ?_
    refine Tr.weak [(4, _), (5, _)] ⟨⟨_, rfl, Pr.le_refl _⟩, ⟨_, rfl, Pr.le_refl _⟩, trivial⟩ ?_
    refine Tr.ret ?_
    refine Fin.ret2 rfl (OutW.bse _ _) rfl ?_ rfl ?_
    · first | exact Pr.le_refl _ | (refine int_eq ?_; simp_all; done) | (refine bool_eq ?_; simp_all; done) | (refine bool_eq ?_; simp_all; omega) | (refine int_eq ?_; omega)
    · refine bool_eq ?_; symm; rw [decide_eq_true_eq]; intro i hi; have hn : own = [] := List.eq_nil_of_length_eq_zero (by omega); rw [hn] at hi; cases hi
  ·
    have q1 := Nrm.nrm h1
    have hpos : 0 < own.length := by omega
    obtain ⟨a, h0⟩ := at_ (l := own) (k := 0) hpos
    obtain ⟨z, hz⟩ := at_ (l := own) (k := own.length - 1) (by omega)
    have hiff := inR_iff ha (m := l.length) h0 hz
    refine Ch.yes rfl rfl rfl h1 rfl (by decide) (ok_move rfl (vl rfl)) ?_
    refine Ch.yes rfl rfl rfl h1 rfl (by decide) (ok_indexAddr rfl Tryz.underlying22 sz3 (vl rfl) (vl rfl) (by omega) (row_at (k := 0) h0)) ?_
    refine Ch.yes rfl rfl rfl h1 rfl (by decide) (ok_load1 rfl one3 (vl rfl)) ?_
    refine Ch.yes rfl rfl rfl h1 rfl (by decide) (ok_int rfl (vl rfl) (vl rfl) rfl) ?_
    refine Ch.yes rfl rfl rfl h1 rfl (by decide) (ok_move rfl (vl rfl)) ?_
    refine Ch.cases 23 rfl (fun h2 => ?_) (fun h2 => ?_)
    ·
      have q2 := Nrm.nrm h2
      refine Ch.yes rfl rfl rfl h2 rfl (by decide) (ok_move rfl (vl rfl)) ?_
      refine Ch.yes rfl rfl rfl h2 rfl (by decide) (ok_move rfl (vl rfl)) ?_
      first
        | refine Ch.yes rfl rfl rfl h2 rfl (by decide) (ok_lenm rfl Tryz.underlying22 (vl rfl)) ?_
        | refine Ch.yes rfl rfl rfl h2 rfl (by decide) (ok_len rfl Tryz.underlying22 (vl rfl)) ?_
      first
        | (refine Ch.yes rfl rfl rfl h2 rfl (by decide) (ok_sub rfl (vl rfl) (vl rfl) ?hin) ?_; case hin => unfold InI; omega)
        | refine Ch.yes rfl rfl rfl h2 rfl (by decide) (ok_int rfl (vl rfl) (vl rfl) rfl) ?_
      refine Ch.yes rfl rfl rfl h2 rfl (by decide) (ok_indexAddr rfl Tryz.underlying22 sz3 (vl rfl) (vl rfl) (by omega) (last_int hpos hz)) ?_
      refine Ch.yes rfl rfl rfl h2 rfl (by decide) (ok_load1 rfl one3 (vl rfl)) ?_
      refine Ch.yes rfl rfl rfl h2 rfl (by decide) (ok_move rfl (vl rfl)) ?_
      first
        | refine Ch.yes rfl rfl rfl h2 rfl (by decide) (ok_lenm rfl Tryz.underlying27 (vl rfl)) ?_
        | refine Ch.yes rfl rfl rfl h2 rfl (by decide) (ok_len rfl Tryz.underlying27 (vl rfl)) ?_
      refine Ch.yes rfl rfl rfl h2 rfl (by decide) (ok_int rfl (vl rfl) (vl rfl) rfl) ?_
      refine Ch.yes rfl rfl rfl h1 rfl (by decide) (ok_pick_t rfl (vl rfl) h2 (vl rfl)) ?_
      refine Ch.op rfl rfl (by decide) (ok_pick_f rfl (vl rfl) h1 (vl rfl)) ?_
      refine Ch.op rfl rfl (by decide) (ok_assign rfl (vl rfl)) ?_
      refine Ch.op rfl rfl (by decide) (ok_assign rfl (vl rfl)) ?_
      refine Ch.nil ?_
      refine Fin.go ?_
      refine Tr.weak [(4, _), (5, _)] ⟨⟨_, rfl, Pr.le_refl _⟩, ⟨_, rfl, Pr.le_refl _⟩, trivial⟩ ?_
      refine Tr.ret ?_
      refine Fin.ret2 rfl (OutW.bse _ _) rfl ?_ rfl ?_
      · first | exact Pr.le_refl _ | (refine int_eq ?_; simp_all; done) | (refine bool_eq ?_; simp_all; done) | (refine bool_eq ?_; simp_all; omega) | (refine int_eq ?_; omega)
      · refine bool_eq ?_; rw [decide_eq_decide, hiff]; omega
    ·
      have q2 := Nrm.nrm h2
      refine Ch.no rfl rfl rfl (ne_true h2) rfl (by decide) ?_
      refine Ch.no rfl rfl rfl (ne_true h2) rfl (by decide) ?_
      refine Ch.no rfl rfl rfl (ne_true h2) rfl (by decide) ?_
      refine Ch.no rfl rfl rfl (ne_true h2) rfl (by decide) ?_
      refine Ch.no rfl rfl rfl (ne_true h2) rfl (by decide) ?_
      refine Ch.no rfl rfl rfl (ne_true h2) rfl (by decide) ?_
      refine Ch.no rfl rfl rfl (ne_true h2) rfl (by decide) ?_
      refine Ch.no rfl rfl rfl (ne_true h2) rfl (by decide) ?_
      refine Ch.no rfl rfl rfl (ne_true h2) rfl (by decide) ?_
      refine Ch.yes rfl rfl rfl h1 rfl (by decide) (ok_pick_f rfl (vl rfl) h2 (vl rfl)) ?_
      refine Ch.op rfl rfl (by decide) (ok_pick_f rfl (vl rfl) h1 (vl rfl)) ?_
      refine Ch.op rfl rfl (by decide) (ok_assign rfl (vl rfl)) ?_
      refine Ch.op rfl rfl (by decide) (ok_assign rfl (vl rfl)) ?_
      refine Ch.nil ?_
      refine Fin.go ?_
      refine Tr.weak [(4, _), (5, _)] ⟨⟨_, rfl, Pr.le_refl _⟩, ⟨_, rfl, Pr.le_refl _⟩, trivial⟩ ?_
      refine Tr.ret ?_
      refine Fin.ret2 rfl (OutW.bse _ _) rfl ?_ rfl ?_
      · first | exact Pr.le_refl _ | (refine int_eq ?_; simp_all; done) | (refine bool_eq ?_; simp_all; done) | (refine bool_eq ?_; simp_all; omega) | (refine int_eq ?_; omega)
      · refine bool_eq ?_; symm; rw [decide_eq_false_iff_not, hiff]; omega
theorem e_indices48 : Entry Tryz.prog 35 := ⟨_, Tryz.func35, rfl, rfl⟩
end Go.Proofs.YthmnoekgicggnaaGreat
