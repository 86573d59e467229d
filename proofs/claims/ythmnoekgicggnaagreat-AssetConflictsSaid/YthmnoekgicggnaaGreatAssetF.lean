/-
  What the functions named below compute, proved from their text; printed by a program of our own.
-/
import Derived.Test.YthmnoekgicggnaaGreatTypes
import Derived.Test.YthmnoekgicggnaaGreatSlices
import Derived.Test.YthmnoekgicggnaaGreatEqs
import Derived.Test.YthmnoekgicggnaaGreatFindA
import Derived.Test.YthmnoekgicggnaaGreatFindB
import Derived.Test.YthmnoekgicggnaaGreatFindC
import Derived.Test.YthmnoekgicggnaaGreatFindD
import Derived.Test.YthmnoekgicggnaaGreatAssetA
import Derived.Test.YthmnoekgicggnaaGreatAssetB
import Derived.Test.YthmnoekgicggnaaGreatAssetC
import Derived.Test.YthmnoekgicggnaaGreatAssetD
import Derived.Test.YthmnoekgicggnaaGreatAssetE
namespace Go.Proofs.YthmnoekgicggnaaGreat
open Go Go.RowKit Cp

abbrev aF : Fnd := ⟨1, [97], 1, 3, 9, 1, [115], 1, 0, 0, []⟩
abbrev aG : Fnd := ⟨1, [97], 1, 5, 9, 8, [115], 1, 0, 0, []⟩
abbrev aX : Fct := ⟨0, [115], 1, 1, 0, 0, [], 0⟩
theorem a_check : ∀ f ∈ [aF, aG], checkF f = true := by decide +kernel
theorem a_fits : ∀ f ∈ [aF, aG], f.fits := by
  intro f hf
  simp at hf
  rcases hf with rfl | rfl <;> exact ⟨by simp [maxLen], by simp [maxLen], by simp [maxLen]⟩
theorem a_norm : [aF, aG].foldl putF [] = [aF, aG] := by kernel_rfl
theorem a_NormP : NormP [aF, aG] := by have := norm_ok a_check (by simp); rwa [a_norm] at this
theorem w_NormA : Fun Tryz.prog 34 [fnds [aF, aG]] (tup [fnds [aF, aG], int 0]) := by
  have := w_R14Norm (l := [aF, aG]) a_check (by simp); rwa [a_norm] at this
theorem a_asc : Asc [0, 1] := by
  intro j x y hx hy
  match j with
  | 0 => simp at hx hy; omega
  | k + 1 => simp at hy
theorem a_in : InR [0, 1] [aF, aG].length := by intro i hi; simp at hi; rcases hi with rfl | rfl <;> simp
theorem a_dec4 : (decM [aF, aG] [0, 1] 4 100).filterMap (fun p => factOf [aF, aG] 0 p.2) = [aX] := by decide +kernel
theorem a_dec5 : (decM [aF, aG] [0, 1] 5 100).filterMap (fun p => factOf [aF, aG] 0 p.2) = [] := by decide +kernel
theorem w_FactsA : Fun Tryz.prog 12 [fnds [aF, aG], entP 0 [0, 1], int 4, int 100] (tup [fcts [aX], int 0]) := by
  have := w_Facts1 (l := [aF, aG]) (n := 0) (t := 4) (o := 100) (own := [0, 1]) a_NormP a_fits (by omega) (by omega) a_asc a_in (by simp) (by decide +kernel); rwa [a_dec4] at this
theorem w_FactsB : Fun Tryz.prog 12 [fnds [aF, aG], entP 0 [0, 1], int 5, int 100] (tup [fcts [], int 0]) := by
  have := w_Facts1 (l := [aF, aG]) (n := 0) (t := 5) (o := 100) (own := [0, 1]) a_NormP a_fits (by omega) (by omega) a_asc a_in (by simp) (by decide +kernel); rwa [a_dec5] at this
theorem w_UsesA : Fun Tryz.prog 20 [fcts [aX], str [115]] (usesP [(1, 0)]) := w_Uses (l := [aX]) (s := [115]) (by simp)

set_option maxRecDepth 20000 in
theorem w_awake   : Fun Tryz.prog 9 [] (bool true) := by
  refine Fun.of Tryz.func9 rfl rfl (by exact Nat.le_of_ble_eq_true rfl) fun M0 w0 => ?_
  refine Tr.seq ?_
  refine Tr.reg0 ?_
  refine Ch.op rfl rfl (by decide) (ok_assign rfl (vl rfl)) ?_
  refine Ch.nil ?_
  refine Fin.go ?_
  refine Tr.seq ?_
  refine Tr.regT ?_
  refine TO.op rfl rfl (by decide) (ok_build (rows := [(0, [_])]) rfl bl38 zo38 ⟨⟨rfl, (VL.le (vl rfl) (one_cellsP _))⟩, trivial⟩ rfl) ?_
  refine TO.op rfl rfl (by decide) (ok_build (rows := [(0, [_]), (1, [_]), (2, [_]), (3, [_]), (4, [_]), (5, [_]), (6, [_]), (7, _)]) rfl bl42 zo42 ⟨⟨rfl, (VL.le (vl rfl) (one_cellsP _))⟩, ⟨⟨rfl, (VL.le (vl rfl) (one_cellsP _))⟩, ⟨⟨rfl, (VL.le (vl rfl) (one_cellsP _))⟩, ⟨⟨rfl, (VL.le (vl rfl) (one_cellsP _))⟩, ⟨⟨rfl, (VL.le (vl rfl) (one_cellsP _))⟩, ⟨⟨rfl, (VL.le (vl rfl) (one_cellsP _))⟩, ⟨⟨rfl, (VL.le (vl rfl) (one_cellsP _))⟩, ⟨⟨rfl, (VL.le (vl rfl) (agg_cellsP _))⟩, trivial⟩⟩⟩⟩⟩⟩⟩⟩ rfl) ?_
  refine TO.alloc rfl rfl (by decide) rfl z42 zo42 (fun b1 => ?_)
  refine TO.store_all 0 rfl rfl rfl (vl rfl) (VL.le (vl rfl) (agg_cellsP _)) rfl sz42 rfl rfl ?_
  refine TO.freeze 0 1 rfl rfl ?_
  refine TO.nil ?_
  refine Fin.go ?_
  refine Tr.seq ?_
  refine Tr.regT ?_
  refine TO.op rfl rfl (by decide) (ok_loadA rfl agg42 sz42 (vl rfl) rfl rfl) ?_
  refine TO.alloc rfl rfl (by decide) rfl z42 zo42 (fun b2 => ?_)
  refine TO.store_all 0 rfl rfl rfl (vl rfl) (VL.le (vl rfl) (agg_cellsP _)) rfl sz42 rfl rfl ?_
  refine TO.nil ?_
  refine Fin.go ?_
  refine Tr.seq ?_
  refine Tr.regT ?_
  refine TO.op rfl rfl (by decide) (okp_fieldAddr rfl fo42_5 (vl rfl)) ?_
  refine TO.ef0 0 rfl rfl (ef_store rfl rfl (vl rfl) (VL.le (vl rfl) (one_cellsP _)) sz3 rfl (by exact Nat.le_of_ble_eq_true rfl) rfl) ?_
  refine TO.op rfl rfl (by decide) (okp_fieldAddr rfl fo42_3 (vl rfl)) ?_
  refine TO.ef0 0 rfl rfl (ef_store rfl rfl (vl rfl) (VL.le (vl rfl) (one_cellsP _)) sz3 rfl (by exact Nat.le_of_ble_eq_true rfl) rfl) ?_
  refine TO.nil ?_
  refine Fin.go ?_
  refine Tr.seq ?_
  refine Tr.reg0 ?_
  refine Ch.op rfl rfl (by decide) (ok_loadA rfl agg42 sz42 (vl rfl) rfl rfl) ?_
  refine Ch.op rfl rfl (by decide) (ok_rd 0 rfl (rd_loadA rfl agg42 sz42 (vl rfl) rfl rfl)) ?_
  refine Ch.op rfl rfl (by decide) (ok_buildSlice (xs := [.tmp 16, .tmp 17]) (rows := [_, _]) rfl rfl Tryz.underlying27 sz42 z42 rfl (by decide) ⟨⟨(by exact rfl), (VL.le (vl rfl) (agg_cellsP _))⟩, ⟨⟨(by exact rfl), (VL.le (vl rfl) (agg_cellsP _))⟩, trivial⟩⟩ (by decide)) ?_
  refine Ch.op rfl rfl (by decide) (ok_call rfl (w_NormA) ⟨⟨_, rfl, full_le _ _⟩, trivial⟩) ?_
  refine Ch.op rfl rfl (by decide) (ok_move rfl (vl rfl)) ?_
  refine Ch.op rfl rfl (by decide) (ok_extract rfl (vl rfl) rfl) ?_
  refine Ch.op rfl rfl (by decide) (ok_extract rfl (vl rfl) rfl) ?_
  refine Ch.op rfl rfl (by decide) (ok_assign rfl (vl rfl)) ?_
  refine Ch.op rfl rfl (by decide) (ok_assign rfl (vl rfl)) ?_
  refine Ch.nil ?_
  refine Fin.go ?_
  refine Tr.drop 0 ?_
  refine Tr.weak [(3, _)] ⟨⟨_, rfl, Pr.le_refl _⟩, trivial⟩ ?_
  refine Tr.seq ?_
  refine Tr.regT ?_
  refine TO.op rfl rfl (by decide) (ok_buildSlice (xs := [.const (.int .i64 (0)), .const (.int .i64 (1))]) (rows := [[_], [_]]) rfl rfl Tryz.underlying22 sz3 z3 rfl (by decide) ⟨⟨(by exact rfl), (VL.le (vl rfl) (one_cellsP _))⟩, ⟨⟨(by exact rfl), (VL.le (vl rfl) (one_cellsP _))⟩, trivial⟩⟩ (by decide)) ?_
  refine TO.op rfl rfl (by decide) (ok_build (rows := [(3, [_])]) rfl bl35 zo35 ⟨⟨rfl, ⟨_, rfl, Pr.le_trans (full_le _ _) (one_cellsP _)⟩⟩, trivial⟩ rfl) ?_
  refine TO.alloc rfl rfl (by decide) rfl z35 zo35 (fun b3 => ?_)
  refine TO.store_all 0 rfl rfl rfl (vl rfl) (VL.le (vl rfl) (agg_cellsP _)) rfl sz35 rfl rfl ?_
  refine TO.freeze 0 5 rfl rfl ?_
  refine TO.nil ?_
  refine Fin.go ?_
  refine Tr.seq ?_
  refine Tr.reg0 ?_
  refine Ch.op rfl rfl (by decide) (ok_move rfl (vl rfl)) ?_
  refine Ch.op rfl rfl (by decide) (ok_loadA rfl agg35 sz35 (vl rfl) rfl rfl) ?_
  refine Ch.op rfl rfl (by decide) (ok_call rfl (w_FactsA) ⟨⟨_, rfl, Pr.le_refl _⟩, ⟨_, rfl, agg_le ⟨Pr.le_refl _, le_any _, le_any _, Pr.le_refl _, trivial⟩⟩, ⟨_, rfl, Pr.le_refl _⟩, ⟨_, rfl, Pr.le_refl _⟩, trivial⟩) ?_
  refine Ch.op rfl rfl (by decide) (ok_move rfl (vl rfl)) ?_
  refine Ch.op rfl rfl (by decide) (ok_extract rfl (vl rfl) rfl) ?_
  refine Ch.op rfl rfl (by decide) (ok_extract rfl (vl rfl) rfl) ?_
  refine Ch.op rfl rfl (by decide) (ok_assign rfl (vl rfl)) ?_
  refine Ch.op rfl rfl (by decide) (ok_assign rfl (vl rfl)) ?_
  refine Ch.nil ?_
  refine Fin.go ?_
  refine Tr.weak [(3, _), (5, _), (6, _), (7, _)] ⟨⟨_, rfl, Pr.le_refl _⟩, ⟨_, rfl, Pr.le_refl _⟩, ⟨_, rfl, Pr.le_refl _⟩, ⟨_, rfl, Pr.le_refl _⟩, trivial⟩ ?_
  refine Tr.seq ?_
  refine Tr.reg0 ?_
  refine Ch.op rfl rfl (by decide) (ok_move rfl (vl rfl)) ?_
  refine Ch.op rfl rfl (by decide) (ok_loadA rfl agg35 sz35 (vl rfl) rfl rfl) ?_
  refine Ch.op rfl rfl (by decide) (ok_call rfl (w_FactsB) ⟨⟨_, rfl, Pr.le_refl _⟩, ⟨_, rfl, agg_le ⟨Pr.le_refl _, le_any _, le_any _, Pr.le_refl _, trivial⟩⟩, ⟨_, rfl, Pr.le_refl _⟩, ⟨_, rfl, Pr.le_refl _⟩, trivial⟩) ?_
  refine Ch.op rfl rfl (by decide) (ok_move rfl (vl rfl)) ?_
  refine Ch.op rfl rfl (by decide) (ok_extract rfl (vl rfl) rfl) ?_
  refine Ch.op rfl rfl (by decide) (ok_extract rfl (vl rfl) rfl) ?_
  refine Ch.op rfl rfl (by decide) (ok_assign rfl (vl rfl)) ?_
  refine Ch.op rfl rfl (by decide) (ok_assign rfl (vl rfl)) ?_
  refine Ch.nil ?_
  refine Fin.go ?_
  refine Tr.seq ?_
  refine Tr.reg0 ?_
  refine Ch.op rfl rfl (by decide) (ok_move rfl (vl rfl)) ?_
  refine Ch.op rfl rfl (by decide) (ok_int rfl (vl rfl) (vl rfl) rfl) ?_
  refine Ch.op rfl rfl (by decide) (ok_move rfl (vl rfl)) ?_
  refine Ch.cases 38 rfl (fun h1 => ?_) (fun h1 => ?_)
  ·
    have q1 := Nrm.nrm h1
    refine Ch.yes rfl rfl rfl h1 rfl (by decide) (ok_move rfl (vl rfl)) ?_
    refine Ch.yes rfl rfl rfl h1 rfl (by decide) (ok_int rfl (vl rfl) (vl rfl) rfl) ?_
    refine Ch.op rfl rfl (by decide) (ok_pick_t rfl (vl rfl) h1 (vl rfl)) ?_
    refine Ch.op rfl rfl (by decide) (ok_move rfl (vl rfl)) ?_
    refine Ch.cases 42 rfl (fun h2 => ?_) (fun h2 => ?_)
    ·
      have q2 := Nrm.nrm h2
      refine Ch.yes rfl rfl rfl h2 rfl (by decide) (ok_move rfl (vl rfl)) ?_
      first
        | refine Ch.yes rfl rfl rfl h2 rfl (by decide) (ok_lenm rfl Tryz.underlying29 (vl rfl)) ?_
        | refine Ch.yes rfl rfl rfl h2 rfl (by decide) (ok_len rfl Tryz.underlying29 (vl rfl)) ?_
      refine Ch.yes rfl rfl rfl h2 rfl (by decide) (ok_int rfl (vl rfl) (vl rfl) rfl) ?_
      refine Ch.op rfl rfl (by decide) (ok_pick_t rfl (vl rfl) h2 (vl rfl)) ?_
      refine Ch.op rfl rfl (by decide) (ok_move rfl (vl rfl)) ?_
      refine Ch.cases 47 rfl (fun h3 => ?_) (fun h3 => ?_)
      ·
        have q3 := Nrm.nrm h3
        refine Ch.yes rfl rfl rfl h3 rfl (by decide) (ok_move rfl (vl rfl)) ?_
        first
          | refine Ch.yes rfl rfl rfl h3 rfl (by decide) (ok_lenm rfl Tryz.underlying29 (vl rfl)) ?_
          | refine Ch.yes rfl rfl rfl h3 rfl (by decide) (ok_len rfl Tryz.underlying29 (vl rfl)) ?_
        refine Ch.yes rfl rfl rfl h3 rfl (by decide) (ok_int rfl (vl rfl) (vl rfl) rfl) ?_
        refine Ch.op rfl rfl (by decide) (ok_pick_t rfl (vl rfl) h3 (vl rfl)) ?_
        refine Ch.op rfl rfl (by decide) (ok_move rfl (vl rfl)) ?_
        refine Ch.cases 52 rfl (fun h4 => ?_) (fun h4 => ?_)
        ·
          have q4 := Nrm.nrm h4
          refine Ch.yes rfl rfl rfl h4 rfl (by decide) (ok_move rfl (vl rfl)) ?_
          refine Ch.yes rfl rfl rfl h4 rfl (by decide) (ok_call rfl (w_UsesA) ⟨⟨_, rfl, Pr.le_refl _⟩, ⟨_, rfl, Pr.le_refl _⟩, trivial⟩) ?_
          first
            | refine Ch.yes rfl rfl rfl h4 rfl (by decide) (ok_lenm rfl Tryz.underlying50 (vl rfl)) ?_
            | refine Ch.yes rfl rfl rfl h4 rfl (by decide) (ok_len rfl Tryz.underlying50 (vl rfl)) ?_
          refine Ch.yes rfl rfl rfl h4 rfl (by decide) (ok_int rfl (vl rfl) (vl rfl) rfl) ?_
          refine Ch.op rfl rfl (by decide) (ok_pick_t rfl (vl rfl) h4 (vl rfl)) ?_
          refine Ch.op rfl rfl (by decide) (ok_assign rfl (vl rfl)) ?_
          refine Ch.nil ?_
          refine Fin.go ?_
          refine Tr.weak [(0, _)] ⟨⟨_, rfl, Pr.le_refl _⟩, trivial⟩ ?_
          refine Tr.ret ?_
          refine Fin.ret1 rfl (OutW.bse _ _) rfl ?_
          · first | exact Pr.le_refl _ | (refine int_eq ?_; simp_all; done) | (refine bool_eq ?_; simp_all; done) | (refine bool_eq ?_; simp_all; omega) | (refine int_eq ?_; omega)
        ·
          have q4 := Nrm.nrm h4
          exfalso; simp at h4
      ·
        have q3 := Nrm.nrm h3
        exfalso; simp at h3
    ·
      have q2 := Nrm.nrm h2
      exfalso; simp at h2
  ·
    have q1 := Nrm.nrm h1
    exfalso; simp at h1
theorem e_awake : Entry Tryz.prog 9 := ⟨_, Tryz.func9, rfl, rfl⟩
end Go.Proofs.YthmnoekgicggnaaGreat
