/-
  What the functions named below compute, proved from their text; printed by a program of our own.
-/
import Derived.Test.YthmnoekgicggnaaGreatTypes
import Derived.Test.YthmnoekgicggnaaGreatSlices
import Derived.Test.YthmnoekgicggnaaGreatEqs
import Derived.Test.YthmnoekgicggnaaGreatCat
import Derived.Test.YthmnoekgicggnaaGreatCat2
namespace Go.Proofs.YthmnoekgicggnaaGreat
open Go Go.RowKit Cp

def curvs : List Int := [160, 224, 256, 384, 521]
def strength (alg bits : Int) : Int :=
  if 1 ≤ alg ∧ alg ≤ 22 then
    if (catOf alg).way = 0 then (if bits = 0 then ((catOf alg).strengths[0]?).getD 0 else 0)
    else if (catOf alg).way = 1 then (if 512 ≤ bits ∧ bits ≤ 16384 then modI bits else 0)
    else if (catOf alg).way = 2 then (if (curvs.any fun x => bits == x) = true then bits.tdiv 2 else 0)
    else if (catOf alg).way = 3 then (if 0 ≤ idx (fun x => bits == x) (catOf alg).sizes then ((catOf alg).strengths[(idx (fun x => bits == x) (catOf alg).sizes).toNat]?).getD 0 else 0)
    else 0
  else 0
theorem catOf_tail {alg : Int} (h : 1 ≤ alg ∧ alg ≤ 22) : catOf alg ∈ catTable.tail := by
  have h1 := catTable_at h
  refine List.mem_of_getElem? (i := alg.toNat - 1) ?_
  rw [List.getElem?_tail, show alg.toNat - 1 + 1 = alg.toNat by omega]; exact h1
theorem cat_ok : ∀ r ∈ catTable.tail, (r.way = 0 → 1 ≤ r.strengths.length) ∧ (r.way = 3 → r.sizes.length ≤ r.strengths.length) := by decide
theorem idx_lt {β : Type} (p : β → Bool) (l : List β) : idx p l < l.length := by
  unfold idx
  cases h : l.findIdx? p with
  | none => simp; omega
  | some i => rw [List.findIdx?_eq_some_iff_getElem] at h; obtain ⟨h1, _⟩ := h; simp; omega

set_option maxRecDepth 20000 in
theorem w_Strength {alg bits : Int}  : Fun Tryz.prog 157 [agg [int alg, int bits]] (int (strength alg bits)) := by
  refine Fun.of Tryz.func157 rfl rfl (by exact Nat.le_of_ble_eq_true rfl) fun M0 w0 => ?_
  refine Tr.seq ?_
  refine Tr.reg0 ?_
  refine Ch.op rfl rfl (by decide) (ok_box rfl (VL.le (vl rfl) (agg_cellsP _))) ?_
  refine Ch.op rfl rfl (by decide) (ok_assign rfl (vl rfl)) ?_
  refine Ch.nil ?_
  refine Fin.go ?_
  refine Tr.seq ?_
  refine Tr.regT ?_
  refine TO.op rfl rfl (by decide) (ok_fieldAddr rfl fo38_0 (vl rfl) rfl) ?_
  refine TO.op rfl rfl (by decide) (ok_load1 rfl one3 (vl rfl)) ?_
  refine TO.op rfl rfl (by decide) (ok_call rfl (w_of) ⟨⟨_, rfl, Pr.le_refl _⟩, trivial⟩) ?_
  refine TO.op rfl rfl (by decide) (ok_move rfl (vl rfl)) ?_
  refine TO.op rfl rfl (by decide) (ok_extract rfl (vl rfl) rfl) ?_
  refine TO.op rfl rfl (by decide) (ok_extract rfl (vl rfl) rfl) ?_
  refine TO.alloc rfl rfl (by decide) rfl z170 zo170 (fun b1 => ?_)
  refine TO.store_all 0 rfl rfl rfl (vl rfl) (VL.le (vl rfl) (agg_cellsP _)) rfl sz170 rfl rfl ?_
  refine TO.freeze 0 3 rfl rfl ?_
  refine TO.op rfl rfl (by decide) (ok_assign rfl (vl rfl)) ?_
  refine TO.nil ?_
  refine Fin.go ?_
  refine Tr.seq ?_
  refine Tr.seq ?_
  refine Tr.reg0 ?_
  refine Ch.op rfl rfl (by decide) (ok_move rfl (vl rfl)) ?_
  refine Ch.op rfl rfl (by decide) (ok_not rfl (vl rfl)) ?_
  refine Ch.nil ?_
  refine Fin.go ?_
  refine Tr.weak [(1, _), (3, _), (13, _)] ⟨⟨_, rfl, Pr.le_refl _⟩, ⟨_, rfl, Pr.le_refl _⟩, ⟨_, rfl, Pr.le_refl _⟩, trivial⟩ ?_
  refine Tr.cond rfl (fun h1 => ?_) (fun h1 => ?_)
  ·
    have q1 := Nrm.nrm h1
    refine Tr.seq ?_
    refine Tr.reg0 ?_
    refine Ch.op rfl rfl (by decide) (ok_assign rfl (vl rfl)) ?_
    refine Ch.nil ?_
    refine Fin.go ?_
    refine Tr.ret ?_
    refine Fin.then_ret ?_
    refine Fin.ret1 rfl (OutW.bse _ _) rfl ?_
    · refine int_eq ?_; unfold strength; rw [if_neg (by intro hh; simp [hh] at h1)]
  ·
    have q1 := Nrm.nrm h1
    have hin : 1 ≤ alg ∧ alg ≤ 22 := by simpa using h1
    obtain ⟨hc0, hc3⟩ := cat_ok _ (catOf_tail hin)
    refine Tr.skip ?_
    refine Fin.go ?_
    refine Tr.seq ?_
    refine Tr.seq ?_
    refine Tr.reg0 ?_
    refine Ch.op rfl rfl (by decide) (ok_fieldAddr rfl fo170_2 (vl rfl) rfl) ?_
    refine Ch.op rfl rfl (by decide) (ok_load1 rfl one3 (vl rfl)) ?_
    refine Ch.nil ?_
    refine Fin.go ?_
    refine Tr.block ?_
    refine Tr.seq ?_
    refine Tr.reg0 ?_
    refine Ch.op rfl rfl (by decide) (ok_int rfl (vl rfl) (vl rfl) rfl) ?_
    refine Ch.op rfl rfl (by decide) (ok_assign rfl (vl rfl)) ?_
    refine Ch.nil ?_
    refine Fin.go ?_
    refine Tr.cond rfl (fun h2 => ?_) (fun h2 => ?_)
    ·
      have q2 := Nrm.nrm h2
      refine Tr.seq ?_
      refine Tr.reg0 ?_
      refine Ch.op rfl rfl (by decide) (ok_fieldAddr rfl fo38_1 (vl rfl) rfl) ?_
      refine Ch.op rfl rfl (by decide) (ok_load1 rfl one3 (vl rfl)) ?_
      refine Ch.op rfl rfl (by decide) (ok_int rfl (vl rfl) (vl rfl) rfl) ?_
      refine Ch.nil ?_
      refine Fin.go ?_
      refine Tr.cond rfl (fun h3 => ?_) (fun h3 => ?_)
      ·
        have q3 := Nrm.nrm h3
        obtain ⟨z, hz⟩ := at_ (l := (catOf alg).strengths) (k := 0) (hc0 (by omega))
        refine Tr.seq ?_
        refine Tr.reg0 ?_
        refine Ch.op rfl rfl (by decide) (ok_fieldAddr rfl fo170_4 (vl rfl) rfl) ?_
        refine Ch.op rfl rfl (by decide) (ok_load1 rfl one22 (vl rfl)) ?_
        refine Ch.op rfl rfl (by decide) (ok_indexAddr rfl Tryz.underlying22 sz3 (vl rfl) (vl rfl) (by omega) (row_at (k := 0) hz)) ?_
        refine Ch.op rfl rfl (by decide) (ok_load1 rfl one3 (vl rfl)) ?_
        refine Ch.op rfl rfl (by decide) (ok_assign rfl (vl rfl)) ?_
        refine Ch.nil ?_
        refine Fin.go ?_
        refine Tr.weak [(2, _)] ⟨⟨_, rfl, Pr.le_refl _⟩, trivial⟩ ?_
        refine Tr.ret ?_
        refine Fin.block_ret ?_
        refine Fin.then_ret ?_
        refine Fin.ret1 rfl (OutW.bse _ _) rfl ?_
        · refine int_eq ?_; unfold strength; rw [if_pos hin, if_pos (by omega), if_pos (by omega), hz]; rfl
      ·
        have q3 := Nrm.nrm h3
        refine Tr.skip ?_
        refine Fin.block ?_
        refine Fin.go ?_
        refine Tr.seq ?_
        refine Tr.reg0 ?_
        refine Ch.op rfl rfl (by decide) (ok_assign rfl (vl rfl)) ?_
        refine Ch.nil ?_
        refine Fin.go ?_
        refine Tr.ret ?_
        refine Fin.ret1 rfl (OutW.bse _ _) rfl ?_
        · refine int_eq ?_; unfold strength; rw [if_pos hin, if_pos (by omega), if_neg (by omega)]
    ·
      have q2 := Nrm.nrm h2
      refine Tr.seq ?_
      refine Tr.reg0 ?_
      refine Ch.op rfl rfl (by decide) (ok_int rfl (vl rfl) (vl rfl) rfl) ?_
      refine Ch.op rfl rfl (by decide) (ok_assign rfl (vl rfl)) ?_
      refine Ch.nil ?_
      refine Fin.go ?_
      refine Tr.cond rfl (fun h4 => ?_) (fun h4 => ?_)
      ·
        have q4 := Nrm.nrm h4
        refine Tr.seq ?_
        refine Tr.reg0 ?_
        refine Ch.op rfl rfl (by decide) (ok_fieldAddr rfl fo38_1 (vl rfl) rfl) ?_
        refine Ch.op rfl rfl (by decide) (ok_load1 rfl one3 (vl rfl)) ?_
        refine Ch.op rfl rfl (by decide) (ok_int rfl (vl rfl) (vl rfl) rfl) ?_
        refine Ch.op rfl rfl (by decide) (ok_move rfl (vl rfl)) ?_
        refine Ch.cases 30 rfl (fun h5 => ?_) (fun h5 => ?_)
        ·
          have q5 := Nrm.nrm h5
          refine Ch.yes rfl rfl rfl h5 rfl (by decide) (ok_fieldAddr rfl fo38_1 (vl rfl) rfl) ?_
          refine Ch.yes rfl rfl rfl h5 rfl (by decide) (ok_load1 rfl one3 (vl rfl)) ?_
          refine Ch.yes rfl rfl rfl h5 rfl (by decide) (ok_int rfl (vl rfl) (vl rfl) rfl) ?_
          refine Ch.op rfl rfl (by decide) (ok_pick_t rfl (vl rfl) h5 (vl rfl)) ?_
          refine Ch.nil ?_
          refine Fin.go ?_
          refine Tr.weak [(1, _), (34, _)] ⟨⟨_, rfl, Pr.le_refl _⟩, ⟨_, rfl, Pr.le_refl _⟩, trivial⟩ ?_
          refine Tr.cond rfl (fun h6 => ?_) (fun h6 => ?_)
          ·
            have q6 := Nrm.nrm h6
            refine Tr.seq ?_
            refine Tr.reg0 ?_
            refine Ch.op rfl rfl (by decide) (ok_fieldAddr rfl fo38_1 (vl rfl) rfl) ?_
            refine Ch.op rfl rfl (by decide) (ok_load1 rfl one3 (vl rfl)) ?_
            refine Ch.op rfl rfl (by decide) (ok_call rfl (w_modulus) ⟨⟨_, rfl, Pr.le_refl _⟩, trivial⟩) ?_
            refine Ch.op rfl rfl (by decide) (ok_assign rfl (vl rfl)) ?_
            refine Ch.nil ?_
            refine Fin.go ?_
            refine Tr.ret ?_
            refine Fin.block_ret ?_
            refine Fin.then_ret ?_
            refine Fin.ret1 rfl (OutW.bse _ _) rfl ?_
            · refine int_eq ?_; unfold strength; rw [if_pos hin, if_neg (by omega), if_pos (by omega), if_pos (by omega)]
          ·
            have q6 := Nrm.nrm h6
            refine Tr.skip ?_
            refine Fin.block ?_
            refine Fin.go ?_
            refine Tr.seq ?_
            refine Tr.reg0 ?_
            refine Ch.op rfl rfl (by decide) (ok_assign rfl (vl rfl)) ?_
            refine Ch.nil ?_
            refine Fin.go ?_
            refine Tr.ret ?_
            refine Fin.ret1 rfl (OutW.bse _ _) rfl ?_
            · refine int_eq ?_; unfold strength; rw [if_pos hin, if_neg (by omega), if_pos (by omega), if_neg (by omega)]
        ·
          have q5 := Nrm.nrm h5
          refine Ch.no rfl rfl rfl (ne_true h5) rfl (by decide) ?_
          refine Ch.no rfl rfl rfl (ne_true h5) rfl (by decide) ?_
          refine Ch.no rfl rfl rfl (ne_true h5) rfl (by decide) ?_
          refine Ch.op rfl rfl (by decide) (ok_pick_f rfl (vl rfl) h5 (vl rfl)) ?_
          refine Ch.nil ?_
          refine Fin.go ?_
          refine Tr.weak [(1, _), (34, _)] ⟨⟨_, rfl, Pr.le_refl _⟩, ⟨_, rfl, Pr.le_refl _⟩, trivial⟩ ?_
          refine Tr.cond rfl (fun h => nomatch h) (fun _ => ?_)
          refine Tr.skip ?_
          refine Fin.block ?_
          refine Fin.go ?_
          refine Tr.seq ?_
          refine Tr.reg0 ?_
          refine Ch.op rfl rfl (by decide) (ok_assign rfl (vl rfl)) ?_
          refine Ch.nil ?_
          refine Fin.go ?_
          refine Tr.ret ?_
          refine Fin.ret1 rfl (OutW.bse _ _) rfl ?_
          · refine int_eq ?_; unfold strength; rw [if_pos hin, if_neg (by omega), if_pos (by omega), if_neg (by omega)]
      ·
        have q4 := Nrm.nrm h4
        refine Tr.seq ?_
        refine Tr.reg0 ?_
        refine Ch.op rfl rfl (by decide) (ok_int rfl (vl rfl) (vl rfl) rfl) ?_
        refine Ch.op rfl rfl (by decide) (ok_assign rfl (vl rfl)) ?_
        refine Ch.nil ?_
        refine Fin.go ?_
        refine Tr.cond rfl (fun h7 => ?_) (fun h7 => ?_)
        ·
          have q7 := Nrm.nrm h7
          refine Tr.seq ?_
          refine Tr.reg0 ?_
          refine Ch.op rfl rfl (by decide) (ok_buildSlice (xs := [.const (.int .i64 (160)), .const (.int .i64 (224)), .const (.int .i64 (256)), .const (.int .i64 (384)), .const (.int .i64 (521))]) (rows := [[_], [_], [_], [_], [_]]) rfl rfl Tryz.underlying22 sz3 z3 rfl (by decide) ⟨⟨(by exact rfl), (VL.le (vl rfl) (one_cellsP _))⟩, ⟨⟨(by exact rfl), (VL.le (vl rfl) (one_cellsP _))⟩, ⟨⟨(by exact rfl), (VL.le (vl rfl) (one_cellsP _))⟩, ⟨⟨(by exact rfl), (VL.le (vl rfl) (one_cellsP _))⟩, ⟨⟨(by exact rfl), (VL.le (vl rfl) (one_cellsP _))⟩, trivial⟩⟩⟩⟩⟩ (by decide)) ?_
          refine Ch.op rfl rfl (by decide) (ok_fieldAddr rfl fo38_1 (vl rfl) rfl) ?_
          refine Ch.op rfl rfl (by decide) (ok_load1 rfl one3 (vl rfl)) ?_
          refine Ch.op rfl rfl (by decide) (ok_call rfl (w_ContainsI (l := curvs)) ⟨⟨_, rfl, full_le _ _⟩, ⟨_, rfl, Pr.le_refl _⟩, trivial⟩) ?_
          refine Ch.nil ?_
          refine Fin.go ?_
          refine Tr.weak [(1, _), (43, _)] ⟨⟨_, rfl, Pr.le_refl _⟩, ⟨_, rfl, Pr.le_refl _⟩, trivial⟩ ?_
          refine Tr.cond rfl (fun h8 => ?_) (fun h8 => ?_)
          ·
            have q8 := Nrm.nrm h8
            have hb : bits = 160 ∨ bits = 224 ∨ bits = 256 ∨ bits = 384 ∨ bits = 521 := by simpa [curvs] using h8
            refine Tr.seq ?_
            refine Tr.reg0 ?_
            refine Ch.op rfl rfl (by decide) (ok_fieldAddr rfl fo38_1 (vl rfl) rfl) ?_
            refine Ch.op rfl rfl (by decide) (ok_load1 rfl one3 (vl rfl)) ?_
            refine Ch.op rfl rfl (by decide) (ok_quo rfl (vl rfl) (vl rfl) (by omega)) ?_
            refine Ch.op rfl rfl (by decide) (ok_assign rfl (vl rfl)) ?_
            refine Ch.nil ?_
            refine Fin.go ?_
            refine Tr.ret ?_
            refine Fin.block_ret ?_
            refine Fin.then_ret ?_
            refine Fin.ret1 rfl (OutW.bse _ _) rfl ?_
            · refine int_eq ?_; unfold strength; rw [if_pos hin, if_neg (by omega), if_neg (by omega), if_pos (by omega), if_pos (by assumption)]; rcases hb with h | h | h | h | h <;> rw [h] <;> rfl
          ·
            have q8 := Nrm.nrm h8
            refine Tr.skip ?_
            refine Fin.block ?_
            refine Fin.go ?_
            refine Tr.seq ?_
            refine Tr.reg0 ?_
            refine Ch.op rfl rfl (by decide) (ok_assign rfl (vl rfl)) ?_
            refine Ch.nil ?_
            refine Fin.go ?_
            refine Tr.ret ?_
            refine Fin.ret1 rfl (OutW.bse _ _) rfl ?_
            · refine int_eq ?_; unfold strength; rw [if_pos hin, if_neg (by omega), if_neg (by omega), if_pos (by omega), if_neg (ne_true (by assumption))]
        ·
          have q7 := Nrm.nrm h7
          refine Tr.seq ?_
          refine Tr.reg0 ?_
          refine Ch.op rfl rfl (by decide) (ok_int rfl (vl rfl) (vl rfl) rfl) ?_
          refine Ch.op rfl rfl (by decide) (ok_assign rfl (vl rfl)) ?_
          refine Ch.nil ?_
          refine Fin.go ?_
          refine Tr.cond rfl (fun h9 => ?_) (fun h9 => ?_)
          ·
            have q9 := Nrm.nrm h9
            refine Tr.seq ?_
            refine Tr.reg0 ?_
            refine Ch.op rfl rfl (by decide) (ok_fieldAddr rfl fo170_3 (vl rfl) rfl) ?_
            refine Ch.op rfl rfl (by decide) (ok_load1 rfl one22 (vl rfl)) ?_
            refine Ch.op rfl rfl (by decide) (ok_fieldAddr rfl fo38_1 (vl rfl) rfl) ?_
            refine Ch.op rfl rfl (by decide) (ok_load1 rfl one3 (vl rfl)) ?_
            refine Ch.op rfl rfl (by decide) (ok_call rfl (w_IndexI) ⟨⟨_, rfl, Pr.le_refl _⟩, ⟨_, rfl, Pr.le_refl _⟩, trivial⟩) ?_
            refine Ch.op rfl rfl (by decide) (ok_assign rfl (vl rfl)) ?_
            refine Ch.nil ?_
            refine Fin.go ?_
            refine Tr.weak [(3, _), (5, _)] ⟨⟨_, rfl, Pr.le_refl _⟩, ⟨_, rfl, Pr.le_refl _⟩, trivial⟩ ?_
            refine Tr.seq ?_
            refine Tr.reg0 ?_
            refine Ch.op rfl rfl (by decide) (ok_move rfl (vl rfl)) ?_
            refine Ch.op rfl rfl (by decide) (ok_int rfl (vl rfl) (vl rfl) rfl) ?_
            refine Ch.nil ?_
            refine Fin.go ?_
            refine Tr.cond rfl (fun h10 => ?_) (fun h10 => ?_)
            ·
              have q10 := Nrm.nrm h10
              have hlt := idx_lt (fun x => bits == x) (catOf alg).sizes
              obtain ⟨z, hz⟩ := at_ (l := (catOf alg).strengths) (k := (idx (fun x => bits == x) (catOf alg).sizes).toNat) (by have := hc3 (by omega); omega)
              refine Tr.seq ?_
              refine Tr.reg0 ?_
              refine Ch.op rfl rfl (by decide) (ok_fieldAddr rfl fo170_4 (vl rfl) rfl) ?_
              refine Ch.op rfl rfl (by decide) (ok_load1 rfl one22 (vl rfl)) ?_
              refine Ch.op rfl rfl (by decide) (ok_move rfl (vl rfl)) ?_
              refine Ch.op rfl rfl (by decide) (ok_indexAddr rfl Tryz.underlying22 sz3 (vl rfl) (vl rfl) (by omega) (row_atI hz)) ?_
              refine Ch.op rfl rfl (by decide) (ok_load1 rfl one3 (vl rfl)) ?_
              refine Ch.op rfl rfl (by decide) (ok_assign rfl (vl rfl)) ?_
              refine Ch.nil ?_
              refine Fin.go ?_
              refine Tr.ret ?_
              refine Fin.block_ret ?_
              refine Fin.then_ret ?_
              refine Fin.ret1 rfl (OutW.bse _ _) rfl ?_
              · refine int_eq ?_; unfold strength; rw [if_pos hin, if_neg (by omega), if_neg (by omega), if_neg (by omega), if_pos (by omega), if_pos (by assumption), hz]; rfl
            ·
              have q10 := Nrm.nrm h10
              refine Tr.skip ?_
              refine Fin.block ?_
              refine Fin.go ?_
              refine Tr.seq ?_
              refine Tr.reg0 ?_
              refine Ch.op rfl rfl (by decide) (ok_assign rfl (vl rfl)) ?_
              refine Ch.nil ?_
              refine Fin.go ?_
              refine Tr.ret ?_
              refine Fin.ret1 rfl (OutW.bse _ _) rfl ?_
              · refine int_eq ?_; unfold strength; rw [if_pos hin, if_neg (by omega), if_neg (by omega), if_neg (by omega), if_pos (by omega), if_neg (by omega)]
          ·
            have q9 := Nrm.nrm h9
            refine Tr.skip ?_
            refine Fin.block ?_
            refine Fin.go ?_
            refine Tr.seq ?_
            refine Tr.reg0 ?_
            refine Ch.op rfl rfl (by decide) (ok_assign rfl (vl rfl)) ?_
            refine Ch.nil ?_
            refine Fin.go ?_
            refine Tr.weak [(2, _)] ⟨⟨_, rfl, Pr.le_refl _⟩, trivial⟩ ?_
            refine Tr.ret ?_
            refine Fin.ret1 rfl (OutW.bse _ _) rfl ?_
            · refine int_eq ?_; unfold strength; rw [if_pos hin, if_neg (by omega), if_neg (by omega), if_neg (by omega), if_neg (by omega)]
theorem e_Strength : Entry Tryz.prog 157 := ⟨_, Tryz.func157, rfl, rfl⟩
set_option maxRecDepth 20000 in
theorem w_Valid {alg bits : Int}  : Fun Tryz.prog 134 [agg [int alg, int bits]] (bool (decide (strength alg bits > 0))) := by
  refine Fun.of Tryz.func134 rfl rfl (by exact Nat.le_of_ble_eq_true rfl) fun M0 w0 => ?_
  refine Tr.seq ?_
  refine Tr.reg0 ?_
  refine Ch.op rfl rfl (by decide) (ok_box rfl (VL.le (vl rfl) (agg_cellsP _))) ?_
  refine Ch.op rfl rfl (by decide) (ok_assign rfl (vl rfl)) ?_
  refine Ch.nil ?_
  refine Fin.go ?_
  refine Tr.seq ?_
  refine Tr.reg0 ?_
  refine Ch.op rfl rfl (by decide) (ok_loadA rfl agg38 sz38 (vl rfl) rfl rfl) ?_
  refine Ch.op rfl rfl (by decide) (ok_call rfl (w_Strength) ⟨⟨_, rfl, Pr.le_refl _⟩, trivial⟩) ?_
  refine Ch.op rfl rfl (by decide) (ok_int rfl (vl rfl) (vl rfl) rfl) ?_
  refine Ch.op rfl rfl (by decide) (ok_assign rfl (vl rfl)) ?_
  refine Ch.nil ?_
  refine Fin.go ?_
  refine Tr.ret ?_
  refine Fin.ret1 rfl (OutW.bse _ _) rfl ?_
  · first | exact Pr.le_refl _ | (refine int_eq ?_; simp_all; done) | (refine bool_eq ?_; simp_all; done) | (refine bool_eq ?_; simp_all; omega) | (refine int_eq ?_; omega)
theorem e_Valid : Entry Tryz.prog 134 := ⟨_, Tryz.func134, rfl, rfl⟩
end Go.Proofs.YthmnoekgicggnaaGreat
