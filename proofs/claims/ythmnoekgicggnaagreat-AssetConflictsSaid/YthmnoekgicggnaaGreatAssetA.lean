/-
  What the functions named below compute, proved from their text; printed by a program of our own.
-/
import Derived.Test.YthmnoekgicggnaaGreatTypes
import Derived.Test.YthmnoekgicggnaaGreatSlices
import Derived.Test.YthmnoekgicggnaaGreatEqs
import Derived.Test.YthmnoekgicggnaaGreatCat
import Derived.Test.YthmnoekgicggnaaGreatCat2
import Derived.Test.YthmnoekgicggnaaGreatCat3
import Derived.Test.YthmnoekgicggnaaGreatCat5
import Derived.Test.YthmnoekgicggnaaGreatFindA
import Derived.Test.YthmnoekgicggnaaGreatFindB
import Derived.Test.YthmnoekgicggnaaGreatFindC
import Derived.Test.YthmnoekgicggnaaGreatFindD
import Derived.Test.YthmnoekgicggnaaGreatSortA
import Derived.Test.YthmnoekgicggnaaGreatCoreV
namespace Go.Proofs.YthmnoekgicggnaaGreat
open Go Go.RowKit Cp

structure Plc where
  subj : List UInt8
  text : List UInt8
  kind : Int
  num : Int
  alg : Int
  bits : Int
deriving DecidableEq
abbrev rowPl (p : Plc) : List Pr := [str p.subj, str p.text, int p.kind, int p.num, int p.alg, int p.bits]
def encPl (p : Plc) : Value := .agg [.string ⟨p.subj.toArray⟩, .string ⟨p.text.toArray⟩, .int .i64 p.kind, .int .i64 p.num, .int .i64 p.alg, .int .i64 p.bits].toArray
/-- What a finding is about. -/
def plcOf (f : Fnd) : Plc :=
  if f.kind = 1 ∨ f.kind = 8 then ⟨f.subj, [], 1, 0, f.alg, f.bits⟩
  else if f.kind = 2 ∨ f.kind = 6 then ⟨f.subj, [], f.kind, f.num, 0, 0⟩
  else if f.kind = 7 then ⟨f.subj, f.text, f.kind, 0, 0, 0⟩
  else ⟨f.subj, [], f.kind, 0, 0, 0⟩

set_option maxRecDepth 20000 in
theorem w_placeOf {f : Fnd}  : Fun Tryz.prog 37 [agg (rowF f)] (agg (rowPl (plcOf f))) := by
  refine Fun.of Tryz.func37 rfl rfl (by exact Nat.le_of_ble_eq_true rfl) fun M0 w0 => ?_
  refine Tr.seq ?_
  refine Tr.regT ?_
  refine TO.op rfl rfl (by decide) (ok_box rfl (VL.le (vl rfl) (agg_cellsP _))) ?_
  refine TO.alloc rfl rfl (by decide) rfl z80 zo80 (fun b1 => ?_)
  refine TO.nil ?_
  refine Fin.go ?_
  refine Tr.seq ?_
  refine Tr.regT ?_
  refine TO.op rfl rfl (by decide) (ok_fieldAddr rfl fo42_6 (vl rfl) rfl) ?_
  refine TO.op rfl rfl (by decide) (ok_load1 rfl one9 (vl rfl)) ?_
  refine TO.op rfl rfl (by decide) (ok_fieldAddr rfl fo42_5 (vl rfl) rfl) ?_
  refine TO.op rfl rfl (by decide) (ok_load1 rfl one3 (vl rfl)) ?_
  refine TO.op rfl rfl (by decide) (ok_build (rows := [(0, [_]), (2, [_])]) rfl bl80 zo80 ⟨⟨rfl, (VL.le (vl rfl) (one_cellsP _))⟩, ⟨⟨rfl, (VL.le (vl rfl) (one_cellsP _))⟩, trivial⟩⟩ rfl) ?_
  refine TO.alloc rfl rfl (by decide) rfl z80 zo80 (fun b2 => ?_)
  refine TO.store_all 0 rfl rfl rfl (vl rfl) (VL.le (vl rfl) (agg_cellsP _)) rfl sz80 rfl rfl ?_
  refine TO.nil ?_
  refine Fin.go ?_
  refine Tr.seq ?_
  refine Tr.seq ?_
  refine Tr.reC 0 [str f.subj, str [], int f.kind, int 0, int 0, int 0] rfl ⟨Pr.le_refl _, Pr.le_refl _, Pr.le_refl _, Pr.le_refl _, Pr.le_refl _, Pr.le_refl _, trivial⟩ ?_
  refine Tr.reg0 ?_
  refine Ch.op rfl rfl (by decide) (ok_fieldAddr rfl fo42_5 (vl rfl) rfl) ?_
  refine Ch.op rfl rfl (by decide) (ok_load1 rfl one3 (vl rfl)) ?_
  refine Ch.nil ?_
  refine Fin.go ?_
  refine Tr.block ?_
  refine Tr.seq ?_
  refine Tr.seq ?_
  refine Tr.reg0 ?_
  refine Ch.op rfl rfl (by decide) (ok_int rfl (vl rfl) (vl rfl) rfl) ?_
  refine Ch.op rfl rfl (by decide) (ok_assign rfl (vl rfl)) ?_
  refine Ch.nil ?_
  refine Fin.go ?_
  refine Tr.weak [(1, _), (2, _), (3, _), (10, _), (11, _)] ⟨⟨_, rfl, Pr.le_refl _⟩, ⟨_, rfl, Pr.le_refl _⟩, ⟨_, rfl, Pr.le_refl _⟩, ⟨_, rfl, Pr.le_refl _⟩, ⟨_, rfl, Pr.le_refl _⟩, trivial⟩ ?_
  refine Tr.cond rfl (fun h1 => ?_) (fun h1 => ?_)
  ·
    have q1 := Nrm.nrm h1
    refine Tr.skip ?_
    refine Fin.go ?_
    refine Tr.cond rfl (fun _ => ?_) (fun h => nomatch h1.symm.trans h)
    refine Tr.regX mixed [none, none, none, some (0, 0, true, 0), none, some (0, 0, true, 0)] (by kernel_rfl) ?_
    refine Cx.op rfl rfl (by decide) (fun _ => ok_fieldAddr rfl fo42_7 (vl rfl) rfl) ?_
    refine Cx.op rfl rfl (by decide) (fun _ => ok_loadA rfl agg38 sz38 (vl rfl) rfl rfl) ?_
    refine Cx.op rfl rfl (by decide) (fun _ => okp_fieldAddr rfl fo80_2 (vl rfl)) ?_
    refine Cx.ef0 0 rfl rfl (ef_store rfl rfl (vl rfl) (VL.le (vl rfl) (one_cellsP _)) sz3 rfl (by exact Nat.le_of_ble_eq_true rfl) rfl) ?_
    refine Cx.op rfl rfl (by decide) (fun _ => okp_fieldAddr rfl fo80_4 (vl rfl)) ?_
    refine Cx.ef0 0 rfl rfl (ef_store rfl rfl (vl rfl) (VL.le (vl rfl) (agg_cellsP _)) sz38 rfl (by exact Nat.le_of_ble_eq_true rfl) rfl) ?_
    refine Cx.nil ⟨rfl, ?_⟩
    refine FinX.done (AllC.cons (AllC.cons (AllC.map _))) ?_
    refine Fin.block ?_
    refine Fin.go ?_
    refine Tr.seq ?_
    refine Tr.reC 0 [str f.subj, str [], int 1, int 0, int f.alg, int f.bits] rfl ⟨Pr.le_refl _, Pr.le_refl _, Pr.le_refl _, Pr.le_refl _, Pr.le_refl _, Pr.le_refl _, trivial⟩ ?_
    refine Tr.regT ?_
    refine TO.rd 0 rfl rfl rfl (by decide) (rd_loadA rfl agg80 sz80 (vl rfl) rfl rfl) ?_
    refine TO.store_all 1 rfl rfl rfl (vl rfl) (VL.le (vl rfl) (agg_cellsP _)) rfl sz80 rfl rfl ?_
    refine TO.nil ?_
    refine Fin.go ?_
    refine Tr.drop 0 ?_
    refine Tr.ret ?_
    refine Fin.retX1 rfl (RVal.cell 0 rfl rfl agg80 sz80 rfl (Pr.le_refl _)) ?_
    · unfold plcOf; rw [if_pos (by omega)]; exact Pr.le_refl _
  ·
    have q1 := Nrm.nrm h1
    refine Tr.reg0 ?_
    refine Ch.op rfl rfl (by decide) (ok_int rfl (vl rfl) (vl rfl) rfl) ?_
    refine Ch.op rfl rfl (by decide) (ok_assign rfl (vl rfl)) ?_
    refine Ch.nil ?_
    refine Fin.go ?_
    refine Tr.cond rfl (fun h2 => ?_) (fun h2 => ?_)
    ·
      have q2 := Nrm.nrm h2
      refine Tr.regX mixed [none, none, none, some (0, 0, true, 0), none, some (0, 0, true, 0)] (by kernel_rfl) ?_
      refine Cx.op rfl rfl (by decide) (fun _ => ok_fieldAddr rfl fo42_7 (vl rfl) rfl) ?_
      refine Cx.op rfl rfl (by decide) (fun _ => ok_loadA rfl agg38 sz38 (vl rfl) rfl rfl) ?_
      refine Cx.op rfl rfl (by decide) (fun _ => okp_fieldAddr rfl fo80_2 (vl rfl)) ?_
      refine Cx.ef0 0 rfl rfl (ef_store rfl rfl (vl rfl) (VL.le (vl rfl) (one_cellsP _)) sz3 rfl (by exact Nat.le_of_ble_eq_true rfl) rfl) ?_
      refine Cx.op rfl rfl (by decide) (fun _ => okp_fieldAddr rfl fo80_4 (vl rfl)) ?_
      refine Cx.ef0 0 rfl rfl (ef_store rfl rfl (vl rfl) (VL.le (vl rfl) (agg_cellsP _)) sz38 rfl (by exact Nat.le_of_ble_eq_true rfl) rfl) ?_
      refine Cx.nil ⟨rfl, ?_⟩
      refine FinX.done (AllC.cons (AllC.cons (AllC.map _))) ?_
      refine Fin.block ?_
      refine Fin.go ?_
      refine Tr.seq ?_
      refine Tr.reC 0 [str f.subj, str [], int 1, int 0, int f.alg, int f.bits] rfl ⟨Pr.le_refl _, Pr.le_refl _, Pr.le_refl _, Pr.le_refl _, Pr.le_refl _, Pr.le_refl _, trivial⟩ ?_
      refine Tr.regT ?_
      refine TO.rd 0 rfl rfl rfl (by decide) (rd_loadA rfl agg80 sz80 (vl rfl) rfl rfl) ?_
      refine TO.store_all 1 rfl rfl rfl (vl rfl) (VL.le (vl rfl) (agg_cellsP _)) rfl sz80 rfl rfl ?_
      refine TO.nil ?_
      refine Fin.go ?_
      refine Tr.drop 0 ?_
      refine Tr.ret ?_
      refine Fin.retX1 rfl (RVal.cell 0 rfl rfl agg80 sz80 rfl (Pr.le_refl _)) ?_
      · unfold plcOf; rw [if_pos (by omega)]; exact Pr.le_refl _
    ·
      have q2 := Nrm.nrm h2
      refine Tr.seq ?_
      refine Tr.seq ?_
      refine Tr.reg0 ?_
      refine Ch.op rfl rfl (by decide) (ok_int rfl (vl rfl) (vl rfl) rfl) ?_
      refine Ch.op rfl rfl (by decide) (ok_assign rfl (vl rfl)) ?_
      refine Ch.nil ?_
      refine Fin.go ?_
      refine Tr.cond rfl (fun h3 => ?_) (fun h3 => ?_)
      ·
        have q3 := Nrm.nrm h3
        refine Tr.skip ?_
        refine Fin.go ?_
        refine Tr.cond rfl (fun _ => ?_) (fun h => nomatch h3.symm.trans h)
        refine Tr.regT ?_
        refine TO.op rfl rfl (by decide) (ok_fieldAddr rfl fo42_8 (vl rfl) rfl) ?_
        refine TO.op rfl rfl (by decide) (ok_load1 rfl one3 (vl rfl)) ?_
        refine TO.op rfl rfl (by decide) (okp_fieldAddr rfl fo80_3 (vl rfl)) ?_
        refine TO.ef0 0 rfl rfl (ef_store rfl rfl (vl rfl) (VL.le (vl rfl) (one_cellsP _)) sz3 rfl (by exact Nat.le_of_ble_eq_true rfl) rfl) ?_
        refine TO.nil ?_
        refine Fin.block ?_
        refine Fin.go ?_
        refine Tr.seq ?_
        refine Tr.reC 0 [str f.subj, str [], int f.kind, int f.num, int 0, int 0] rfl ⟨Pr.le_refl _, Pr.le_refl _, Pr.le_refl _, Pr.le_refl _, Pr.le_refl _, Pr.le_refl _, trivial⟩ ?_
        refine Tr.regT ?_
        refine TO.rd 0 rfl rfl rfl (by decide) (rd_loadA rfl agg80 sz80 (vl rfl) rfl rfl) ?_
        refine TO.store_all 1 rfl rfl rfl (vl rfl) (VL.le (vl rfl) (agg_cellsP _)) rfl sz80 rfl rfl ?_
        refine TO.nil ?_
        refine Fin.go ?_
        refine Tr.drop 0 ?_
        refine Tr.ret ?_
        refine Fin.retX1 rfl (RVal.cell 0 rfl rfl agg80 sz80 rfl (Pr.le_refl _)) ?_
        · unfold plcOf; rw [if_neg (by omega), if_pos (by omega)]; exact Pr.le_refl _
      ·
        have q3 := Nrm.nrm h3
        refine Tr.reg0 ?_
        refine Ch.op rfl rfl (by decide) (ok_int rfl (vl rfl) (vl rfl) rfl) ?_
        refine Ch.op rfl rfl (by decide) (ok_assign rfl (vl rfl)) ?_
        refine Ch.nil ?_
        refine Fin.go ?_
        refine Tr.cond rfl (fun h4 => ?_) (fun h4 => ?_)
        ·
          have q4 := Nrm.nrm h4
          refine Tr.regT ?_
          refine TO.op rfl rfl (by decide) (ok_fieldAddr rfl fo42_8 (vl rfl) rfl) ?_
          refine TO.op rfl rfl (by decide) (ok_load1 rfl one3 (vl rfl)) ?_
          refine TO.op rfl rfl (by decide) (okp_fieldAddr rfl fo80_3 (vl rfl)) ?_
          refine TO.ef0 0 rfl rfl (ef_store rfl rfl (vl rfl) (VL.le (vl rfl) (one_cellsP _)) sz3 rfl (by exact Nat.le_of_ble_eq_true rfl) rfl) ?_
          refine TO.nil ?_
          refine Fin.block ?_
          refine Fin.go ?_
          refine Tr.weak [(2, _), (3, _)] ⟨⟨_, rfl, Pr.le_refl _⟩, ⟨_, rfl, Pr.le_refl _⟩, trivial⟩ ?_
          refine Tr.seq ?_
          refine Tr.reC 0 [str f.subj, str [], int f.kind, int f.num, int 0, int 0] rfl ⟨Pr.le_refl _, Pr.le_refl _, Pr.le_refl _, Pr.le_refl _, Pr.le_refl _, Pr.le_refl _, trivial⟩ ?_
          refine Tr.regT ?_
          refine TO.rd 0 rfl rfl rfl (by decide) (rd_loadA rfl agg80 sz80 (vl rfl) rfl rfl) ?_
          refine TO.store_all 1 rfl rfl rfl (vl rfl) (VL.le (vl rfl) (agg_cellsP _)) rfl sz80 rfl rfl ?_
          refine TO.nil ?_
          refine Fin.go ?_
          refine Tr.drop 0 ?_
          refine Tr.ret ?_
          refine Fin.retX1 rfl (RVal.cell 0 rfl rfl agg80 sz80 rfl (Pr.le_refl _)) ?_
          · unfold plcOf; rw [if_neg (by omega), if_pos (by omega)]; exact Pr.le_refl _
        ·
          have q4 := Nrm.nrm h4
          refine Tr.seq ?_
          refine Tr.reg0 ?_
          refine Ch.op rfl rfl (by decide) (ok_int rfl (vl rfl) (vl rfl) rfl) ?_
          refine Ch.op rfl rfl (by decide) (ok_assign rfl (vl rfl)) ?_
          refine Ch.nil ?_
          refine Fin.go ?_
          refine Tr.cond rfl (fun h5 => ?_) (fun h5 => ?_)
          ·
            have q5 := Nrm.nrm h5
            refine Tr.regT ?_
            refine TO.op rfl rfl (by decide) (ok_fieldAddr rfl fo42_9 (vl rfl) rfl) ?_
            refine TO.op rfl rfl (by decide) (ok_load1 rfl one9 (vl rfl)) ?_
            refine TO.op rfl rfl (by decide) (okp_fieldAddr rfl fo80_1 (vl rfl)) ?_
            refine TO.ef0 0 rfl rfl (ef_store rfl rfl (vl rfl) (VL.le (vl rfl) (one_cellsP _)) sz9 rfl (by exact Nat.le_of_ble_eq_true rfl) rfl) ?_
            refine TO.nil ?_
            refine Fin.block ?_
            refine Fin.go ?_
            refine Tr.weak [(2, _), (3, _)] ⟨⟨_, rfl, Pr.le_refl _⟩, ⟨_, rfl, Pr.le_refl _⟩, trivial⟩ ?_
            refine Tr.seq ?_
            refine Tr.reC 0 [str f.subj, str f.text, int f.kind, int 0, int 0, int 0] rfl ⟨Pr.le_refl _, Pr.le_refl _, Pr.le_refl _, Pr.le_refl _, Pr.le_refl _, Pr.le_refl _, trivial⟩ ?_
            refine Tr.regT ?_
            refine TO.rd 0 rfl rfl rfl (by decide) (rd_loadA rfl agg80 sz80 (vl rfl) rfl rfl) ?_
            refine TO.store_all 1 rfl rfl rfl (vl rfl) (VL.le (vl rfl) (agg_cellsP _)) rfl sz80 rfl rfl ?_
            refine TO.nil ?_
            refine Fin.go ?_
            refine Tr.drop 0 ?_
            refine Tr.ret ?_
            refine Fin.retX1 rfl (RVal.cell 0 rfl rfl agg80 sz80 rfl (Pr.le_refl _)) ?_
            · unfold plcOf; rw [if_neg (by omega), if_neg (by omega), if_pos (by omega)]; exact Pr.le_refl _
          ·
            have q5 := Nrm.nrm h5
            refine Tr.skip ?_
            refine Fin.block ?_
            refine Fin.go ?_
            refine Tr.seq ?_
            refine Tr.reC 0 [str f.subj, str [], int f.kind, int 0, int 0, int 0] rfl ⟨Pr.le_refl _, Pr.le_refl _, Pr.le_refl _, Pr.le_refl _, Pr.le_refl _, Pr.le_refl _, trivial⟩ ?_
            refine Tr.regT ?_
            refine TO.rd 0 rfl rfl rfl (by decide) (rd_loadA rfl agg80 sz80 (vl rfl) rfl rfl) ?_
            refine TO.store_all 1 rfl rfl rfl (vl rfl) (VL.le (vl rfl) (agg_cellsP _)) rfl sz80 rfl rfl ?_
            refine TO.nil ?_
            refine Fin.go ?_
            refine Tr.drop 0 ?_
            refine Tr.weak [(2, _)] ⟨⟨_, rfl, Pr.le_refl _⟩, trivial⟩ ?_
            refine Tr.ret ?_
            refine Fin.retX1 rfl (RVal.cell 0 rfl rfl agg80 sz80 rfl (Pr.le_refl _)) ?_
            · unfold plcOf; rw [if_neg (by omega), if_neg (by omega), if_neg (by omega)]; exact Pr.le_refl _
theorem e_placeOf : Entry Tryz.prog 37 := ⟨_, Tryz.func37, rfl, rfl⟩

theorem mapT_place : MapT Tryz.prog 78 80 3 encPl where
  und := Tryz.underlying78
  zero := fun w => by kernel_rfl
  eq := fun a b w => by
    rw [show Op.equal 80 _ _ = Op.equalIn (9997 + 3) 80 _ _ from rfl]
    refine (eqv80 (x0 := a.subj) (x1 := a.text) (x2 := a.kind) (x3 := a.num) (x4 := a.alg) (x5 := a.bits) (y0 := b.subj) (y1 := b.text) (y2 := b.kind) (y3 := b.num) (y4 := b.alg) (y5 := b.bits)).trans (congrArg (fun b => Result.ok b w) ?_)
    rw [decide_eq_decide]
    cases a; cases b; simp
  chk := fun e a w => by
    show (Instr.checkKey e (9999 + 1) 80 (.agg _)).run _ w = _
    exact chkS Tryz.underlying80 (⟨⟨_, fun w => part_leaf one9 rfl, chk_str Tryz.underlying9⟩, ⟨⟨_, fun w => part_leaf one9 rfl, chk_str Tryz.underlying9⟩, ⟨⟨_, fun w => part_leaf one3 rfl, chk_int Tryz.underlying3⟩, ⟨⟨_, fun w => part_leaf one3 rfl, chk_int Tryz.underlying3⟩, ⟨⟨_, fun w => part_agg agg38 sz38 rfl, chkS Tryz.underlying38 (⟨⟨_, fun w => part_leaf one3 rfl, chk_int Tryz.underlying3⟩, ⟨⟨_, fun w => part_leaf one3 rfl, chk_int Tryz.underlying3⟩, trivial⟩⟩)⟩, trivial⟩⟩⟩⟩⟩) w
  und2 := ⟨_, Tryz.underlying80, fun a b => rfl⟩
  bits := fun a => by
    show Instr.sameBits (9999 + 1) (.agg _) (.agg _) = true
    simp [Instr.sameBits, beq_toListBytes]

end Go.Proofs.YthmnoekgicggnaaGreat
