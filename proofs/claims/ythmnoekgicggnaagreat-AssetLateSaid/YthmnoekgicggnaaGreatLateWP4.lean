/-
  Part 4 of the texts that prove this claim, merged.
-/
import Derived.Sort.LotA
import Derived.Sort.LotB
import Derived.Sort.LotC
import Derived.Test.YthmnoekgicggnaaGreatLateWP3
set_option linter.all false
namespace Go.Proofs.YthmnoekgicggnaaGreat
open Go Go.RowKit Cp

structure Plc where
  subj : List UInt8
  text : List UInt8
  kind : Int
  num : Int
  alg : Int
  bits : Int
deriving DecidableEq
abbrev rowPl (p : Plc) : List Pr := [str p.subj, str p.text, int p.kind, int p.num, int p.alg, int p.bits]
def encPl (p : Plc) : Value := .agg [.string ⟨p.subj.toArray⟩, .string ⟨p.text.toArray⟩, .int .i64 p.kind, .int .i64 p.num, .int .i64 p.alg, .int .i64 p.bits].toArray
/-- What a finding is about. -/
def plcOf (f : Fnd) : Plc :=
  if f.kind = 1 ∨ f.kind = 8 then ⟨f.subj, [], 1, 0, f.alg, f.bits⟩
  else if f.kind = 2 ∨ f.kind = 6 then ⟨f.subj, [], f.kind, f.num, 0, 0⟩
  else if f.kind = 7 then ⟨f.subj, f.text, f.kind, 0, 0, 0⟩
  else ⟨f.subj, [], f.kind, 0, 0, 0⟩

set_option maxRecDepth 20000 in
theorem w_placeOf {f : Fnd}  : Fun Tryz.prog 37 [agg (rowF f)] (agg (rowPl (plcOf f))) := by
 refine Fun.of Tryz.func37 rfl rfl (by exact Nat.le_of_ble_eq_true rfl) fun M0 w0 => ?_
 refine Tr.seq (Tr.regT ?_)
 refine TO.oo rfl rfl rfl (ok_box rfl (VL.le (vl rfl) (agg_cellsP _))) ?_
 refine TO.alloc rfl rfl (by decide) rfl z80 zo80 (fun b1 => ?_)
 refine TO.nil (Fin.go (Tr.seq (Tr.regT ?_)))
 refine TO.oo rfl rfl rfl (ok_fieldAddr rfl fo42_6 (vl rfl) rfl) ?_
 refine TO.oo rfl rfl rfl (ok_load1 rfl one9 (vl rfl)) ?_
 refine TO.oo rfl rfl rfl (ok_fieldAddr rfl fo42_5 (vl rfl) rfl) ?_
 refine TO.oo rfl rfl rfl (ok_load1 rfl one3 (vl rfl)) ?_
 refine TO.oo rfl rfl rfl (ok_build (rows := [(0, [_]), (2, [_])]) rfl bl80 zo80 ⟨⟨rfl, (VL.le (vl rfl) (one_cellsP _))⟩, ⟨⟨rfl, (VL.le (vl rfl) (one_cellsP _))⟩, trivial⟩⟩ rfl) ?_
 refine TO.alloc rfl rfl (by decide) rfl z80 zo80 (fun b2 => ?_)
 refine TO.store_all 0 rfl rfl rfl (vl rfl) (VL.le (vl rfl) (agg_cellsP _)) rfl sz80 rfl rfl ?_
 refine TO.nil (Fin.go (Tr.seq (Tr.seq ?_)))
 refine Tr.reC 0 [str f.subj, str [], int f.kind, int 0, int 0, int 0] rfl ⟨Pr.le_refl _, Pr.le_refl _, Pr.le_refl _, Pr.le_refl _, Pr.le_refl _, Pr.le_refl _, trivial⟩ ?_
 refine Tr.reg0 ?_
 refine Ch.oo rfl rfl rfl (ok_fieldAddr rfl fo42_5 (vl rfl) rfl) ?_
 refine Ch.oo rfl rfl rfl (ok_load1 rfl one3 (vl rfl)) ?_
 refine Ch.nil (Fin.go (Tr.block (Tr.seq (Tr.seq (Tr.reg0 ?_)))))
 refine Ch.oo rfl rfl rfl (ok_int rfl (vl rfl) (vl rfl) rfl) ?_
 refine Ch.as rfl rfl rfl rfl rfl ?_
 refine Ch.nil (Fin.go ?_)
 refine Tr.w5 1 2 3 10 11 rfl rfl rfl rfl rfl ?_
 refine Tr.cn rfl (fun h1 q1 => ?_) (fun h1 q1 => ?_)
 ·
  refine Tr.skip (Fin.go ?_)
  refine Tr.cond rfl (fun _ => ?_) (fun h => nomatch h1.symm.trans h)
  refine Tr.regX mixed [none, none, none, some (0, 0, true, 0), none, some (0, 0, true, 0)] (by kernel_rfl) ?_
  refine Cx.oo rfl rfl rfl (fun _ => ok_fieldAddr rfl fo42_7 (vl rfl) rfl) ?_
  refine Cx.oo rfl rfl rfl (fun _ => ok_loadA rfl agg38 sz38 (vl rfl) rfl rfl) ?_
  refine Cx.oo rfl rfl rfl (fun _ => okp_fieldAddr rfl fo80_2 (vl rfl)) ?_
  refine Cx.ef0 0 rfl rfl (ef_store rfl rfl (vl rfl) (VL.le (vl rfl) (one_cellsP _)) sz3 rfl (by exact Nat.le_of_ble_eq_true rfl) rfl) ?_
  refine Cx.oo rfl rfl rfl (fun _ => okp_fieldAddr rfl fo80_4 (vl rfl)) ?_
  refine Cx.ef0 0 rfl rfl (ef_store rfl rfl (vl rfl) (VL.le (vl rfl) (agg_cellsP _)) sz38 rfl (by exact Nat.le_of_ble_eq_true rfl) rfl) ?_
  refine Cx.nil ⟨rfl, ?_⟩
  refine FinX.done (AllC.cons (AllC.cons (AllC.map _))) ?_
  refine Fin.block (Fin.go (Tr.seq ?_))
  refine Tr.reC 0 [str f.subj, str [], int 1, int 0, int f.alg, int f.bits] rfl ⟨Pr.le_refl _, Pr.le_refl _, Pr.le_refl _, Pr.le_refl _, Pr.le_refl _, Pr.le_refl _, trivial⟩ ?_
  refine Tr.regT ?_
  refine TO.rd 0 rfl rfl rfl (by decide) (rd_loadA rfl agg80 sz80 (vl rfl) rfl rfl) ?_
  refine TO.store_all 1 rfl rfl rfl (vl rfl) (VL.le (vl rfl) (agg_cellsP _)) rfl sz80 rfl rfl ?_
  refine TO.nil (Fin.go ?_)
  refine Tr.drop 0 ?_
  refine Tr.ret ?_
  refine Fin.retX1 rfl (RVal.cell 0 rfl rfl agg80 sz80 rfl (Pr.le_refl _)) ?_
  · unfold plcOf; rw [if_pos (by omega)]; exact Pr.le_refl _
 ·
  refine Tr.reg0 ?_
  refine Ch.oo rfl rfl rfl (ok_int rfl (vl rfl) (vl rfl) rfl) ?_
  refine Ch.as rfl rfl rfl rfl rfl ?_
  refine Ch.nil (Fin.go ?_)
  refine Tr.cn rfl (fun h2 q2 => ?_) (fun h2 q2 => ?_)
  ·
   refine Tr.regX mixed [none, none, none, some (0, 0, true, 0), none, some (0, 0, true, 0)] (by kernel_rfl) ?_
   refine Cx.oo rfl rfl rfl (fun _ => ok_fieldAddr rfl fo42_7 (vl rfl) rfl) ?_
   refine Cx.oo rfl rfl rfl (fun _ => ok_loadA rfl agg38 sz38 (vl rfl) rfl rfl) ?_
   refine Cx.oo rfl rfl rfl (fun _ => okp_fieldAddr rfl fo80_2 (vl rfl)) ?_
   refine Cx.ef0 0 rfl rfl (ef_store rfl rfl (vl rfl) (VL.le (vl rfl) (one_cellsP _)) sz3 rfl (by exact Nat.le_of_ble_eq_true rfl) rfl) ?_
   refine Cx.oo rfl rfl rfl (fun _ => okp_fieldAddr rfl fo80_4 (vl rfl)) ?_
   refine Cx.ef0 0 rfl rfl (ef_store rfl rfl (vl rfl) (VL.le (vl rfl) (agg_cellsP _)) sz38 rfl (by exact Nat.le_of_ble_eq_true rfl) rfl) ?_
   refine Cx.nil ⟨rfl, ?_⟩
   refine FinX.done (AllC.cons (AllC.cons (AllC.map _))) ?_
   refine Fin.block (Fin.go (Tr.seq ?_))
   refine Tr.reC 0 [str f.subj, str [], int 1, int 0, int f.alg, int f.bits] rfl ⟨Pr.le_refl _, Pr.le_refl _, Pr.le_refl _, Pr.le_refl _, Pr.le_refl _, Pr.le_refl _, trivial⟩ ?_
   refine Tr.regT ?_
   refine TO.rd 0 rfl rfl rfl (by decide) (rd_loadA rfl agg80 sz80 (vl rfl) rfl rfl) ?_
   refine TO.store_all 1 rfl rfl rfl (vl rfl) (VL.le (vl rfl) (agg_cellsP _)) rfl sz80 rfl rfl ?_
   refine TO.nil (Fin.go ?_)
   refine Tr.drop 0 ?_
   refine Tr.ret ?_
   refine Fin.retX1 rfl (RVal.cell 0 rfl rfl agg80 sz80 rfl (Pr.le_refl _)) ?_
   · unfold plcOf; rw [if_pos (by omega)]; exact Pr.le_refl _
  ·
   refine Tr.seq (Tr.seq (Tr.reg0 ?_))
   refine Ch.oo rfl rfl rfl (ok_int rfl (vl rfl) (vl rfl) rfl) ?_
   refine Ch.as rfl rfl rfl rfl rfl ?_
   refine Ch.nil (Fin.go ?_)
   refine Tr.cn rfl (fun h3 q3 => ?_) (fun h3 q3 => ?_)
   ·
    refine Tr.skip (Fin.go ?_)
    refine Tr.cond rfl (fun _ => ?_) (fun h => nomatch h3.symm.trans h)
    refine Tr.regT ?_
    refine TO.oo rfl rfl rfl (ok_fieldAddr rfl fo42_8 (vl rfl) rfl) ?_
    refine TO.oo rfl rfl rfl (ok_load1 rfl one3 (vl rfl)) ?_
    refine TO.oo rfl rfl rfl (okp_fieldAddr rfl fo80_3 (vl rfl)) ?_
    refine TO.ef0 0 rfl rfl (ef_store rfl rfl (vl rfl) (VL.le (vl rfl) (one_cellsP _)) sz3 rfl (by exact Nat.le_of_ble_eq_true rfl) rfl) ?_
    refine TO.nil (Fin.block (Fin.go (Tr.seq ?_)))
    refine Tr.reC 0 [str f.subj, str [], int f.kind, int f.num, int 0, int 0] rfl ⟨Pr.le_refl _, Pr.le_refl _, Pr.le_refl _, Pr.le_refl _, Pr.le_refl _, Pr.le_refl _, trivial⟩ ?_
    refine Tr.regT ?_
    refine TO.rd 0 rfl rfl rfl (by decide) (rd_loadA rfl agg80 sz80 (vl rfl) rfl rfl) ?_
    refine TO.store_all 1 rfl rfl rfl (vl rfl) (VL.le (vl rfl) (agg_cellsP _)) rfl sz80 rfl rfl ?_
    refine TO.nil (Fin.go ?_)
    refine Tr.drop 0 ?_
    refine Tr.ret ?_
    refine Fin.retX1 rfl (RVal.cell 0 rfl rfl agg80 sz80 rfl (Pr.le_refl _)) ?_
    · unfold plcOf; rw [if_neg (by omega), if_pos (by omega)]; exact Pr.le_refl _
   ·
    refine Tr.reg0 ?_
    refine Ch.oo rfl rfl rfl (ok_int rfl (vl rfl) (vl rfl) rfl) ?_
    refine Ch.as rfl rfl rfl rfl rfl ?_
    refine Ch.nil (Fin.go ?_)
    refine Tr.cn rfl (fun h4 q4 => ?_) (fun h4 q4 => ?_)
    ·
     refine Tr.regT ?_
     refine TO.oo rfl rfl rfl (ok_fieldAddr rfl fo42_8 (vl rfl) rfl) ?_
     refine TO.oo rfl rfl rfl (ok_load1 rfl one3 (vl rfl)) ?_
     refine TO.oo rfl rfl rfl (okp_fieldAddr rfl fo80_3 (vl rfl)) ?_
     refine TO.ef0 0 rfl rfl (ef_store rfl rfl (vl rfl) (VL.le (vl rfl) (one_cellsP _)) sz3 rfl (by exact Nat.le_of_ble_eq_true rfl) rfl) ?_
     refine TO.nil (Fin.block (Fin.go ?_))
     refine Tr.w2 2 3 rfl rfl ?_
     refine Tr.seq ?_
     refine Tr.reC 0 [str f.subj, str [], int f.kind, int f.num, int 0, int 0] rfl ⟨Pr.le_refl _, Pr.le_refl _, Pr.le_refl _, Pr.le_refl _, Pr.le_refl _, Pr.le_refl _, trivial⟩ ?_
     refine Tr.regT ?_
     refine TO.rd 0 rfl rfl rfl (by decide) (rd_loadA rfl agg80 sz80 (vl rfl) rfl rfl) ?_
     refine TO.store_all 1 rfl rfl rfl (vl rfl) (VL.le (vl rfl) (agg_cellsP _)) rfl sz80 rfl rfl ?_
     refine TO.nil (Fin.go ?_)
     refine Tr.drop 0 ?_
     refine Tr.ret ?_
     refine Fin.retX1 rfl (RVal.cell 0 rfl rfl agg80 sz80 rfl (Pr.le_refl _)) ?_
     · unfold plcOf; rw [if_neg (by omega), if_pos (by omega)]; exact Pr.le_refl _
    ·
     refine Tr.seq (Tr.reg0 ?_)
     refine Ch.oo rfl rfl rfl (ok_int rfl (vl rfl) (vl rfl) rfl) ?_
     refine Ch.as rfl rfl rfl rfl rfl ?_
     refine Ch.nil (Fin.go ?_)
     refine Tr.cn rfl (fun h5 q5 => ?_) (fun h5 q5 => ?_)
     ·
      refine Tr.regT ?_
      refine TO.oo rfl rfl rfl (ok_fieldAddr rfl fo42_9 (vl rfl) rfl) ?_
      refine TO.oo rfl rfl rfl (ok_load1 rfl one9 (vl rfl)) ?_
      refine TO.oo rfl rfl rfl (okp_fieldAddr rfl fo80_1 (vl rfl)) ?_
      refine TO.ef0 0 rfl rfl (ef_store rfl rfl (vl rfl) (VL.le (vl rfl) (one_cellsP _)) sz9 rfl (by exact Nat.le_of_ble_eq_true rfl) rfl) ?_
      refine TO.nil (Fin.block (Fin.go ?_))
      refine Tr.w2 2 3 rfl rfl ?_
      refine Tr.seq ?_
      refine Tr.reC 0 [str f.subj, str f.text, int f.kind, int 0, int 0, int 0] rfl ⟨Pr.le_refl _, Pr.le_refl _, Pr.le_refl _, Pr.le_refl _, Pr.le_refl _, Pr.le_refl _, trivial⟩ ?_
      refine Tr.regT ?_
      refine TO.rd 0 rfl rfl rfl (by decide) (rd_loadA rfl agg80 sz80 (vl rfl) rfl rfl) ?_
      refine TO.store_all 1 rfl rfl rfl (vl rfl) (VL.le (vl rfl) (agg_cellsP _)) rfl sz80 rfl rfl ?_
      refine TO.nil (Fin.go ?_)
      refine Tr.drop 0 ?_
      refine Tr.ret ?_
      refine Fin.retX1 rfl (RVal.cell 0 rfl rfl agg80 sz80 rfl (Pr.le_refl _)) ?_
      · unfold plcOf; rw [if_neg (by omega), if_neg (by omega), if_pos (by omega)]; exact Pr.le_refl _
     ·
      refine Tr.skip (Fin.block (Fin.go (Tr.seq ?_)))
      refine Tr.reC 0 [str f.subj, str [], int f.kind, int 0, int 0, int 0] rfl ⟨Pr.le_refl _, Pr.le_refl _, Pr.le_refl _, Pr.le_refl _, Pr.le_refl _, Pr.le_refl _, trivial⟩ ?_
      refine Tr.regT ?_
      refine TO.rd 0 rfl rfl rfl (by decide) (rd_loadA rfl agg80 sz80 (vl rfl) rfl rfl) ?_
      refine TO.store_all 1 rfl rfl rfl (vl rfl) (VL.le (vl rfl) (agg_cellsP _)) rfl sz80 rfl rfl ?_
      refine TO.nil (Fin.go ?_)
      refine Tr.drop 0 ?_
      refine Tr.w1 2 rfl ?_
      refine Tr.ret ?_
      refine Fin.retX1 rfl (RVal.cell 0 rfl rfl agg80 sz80 rfl (Pr.le_refl _)) ?_
      · unfold plcOf; rw [if_neg (by omega), if_neg (by omega), if_neg (by omega)]; exact Pr.le_refl _
theorem mapT_place : MapT Tryz.prog 78 80 3 encPl where
  und := Tryz.underlying78
  zero := fun w => by kernel_rfl
  eq := fun a b w => by
    rw [show Op.equal 80 _ _ = Op.equalIn (9997 + 3) 80 _ _ from rfl]
    refine (eqv80 (x0 := a.subj) (x1 := a.text) (x2 := a.kind) (x3 := a.num) (x4 := a.alg) (x5 := a.bits) (y0 := b.subj) (y1 := b.text) (y2 := b.kind) (y3 := b.num) (y4 := b.alg) (y5 := b.bits)).trans (congrArg (fun b => Result.ok b w) ?_)
    rw [decide_eq_decide]
    cases a; cases b; simp
  chk := fun e a w => by
    show (Instr.checkKey e (9999 + 1) 80 (.agg _)).run _ w = _
    exact chkS Tryz.underlying80 (⟨⟨_, fun w => part_leaf one9 rfl, chk_str Tryz.underlying9⟩, ⟨⟨_, fun w => part_leaf one9 rfl, chk_str Tryz.underlying9⟩, ⟨⟨_, fun w => part_leaf one3 rfl, chk_int Tryz.underlying3⟩, ⟨⟨_, fun w => part_leaf one3 rfl, chk_int Tryz.underlying3⟩, ⟨⟨_, fun w => part_agg agg38 sz38 rfl, chkS Tryz.underlying38 (⟨⟨_, fun w => part_leaf one3 rfl, chk_int Tryz.underlying3⟩, ⟨⟨_, fun w => part_leaf one3 rfl, chk_int Tryz.underlying3⟩, trivial⟩⟩)⟩, trivial⟩⟩⟩⟩⟩) w
  und2 := ⟨_, Tryz.underlying80, fun a b => rfl⟩
  bits := fun a => by
    show Instr.sameBits (9999 + 1) (.agg _) (.agg _) = true
    simp [Instr.sameBits, beq_toListBytes]

end Go.Proofs.YthmnoekgicggnaaGreat
namespace Go.Proofs.YthmnoekgicggnaaGreat
open Go Go.RowKit Cp
set_option maxRecDepth 20000 in
theorem w_CloneP {l : List Int} (hl : l.length ≤ 1000000000) : Fun Tryz.prog 60 [ints l] (ints l) := by
 refine Fun.of Tryz.func60 rfl rfl (by exact Nat.le_of_ble_eq_true rfl) fun M0 w0 => ?_
 refine Tr.seq (Tr.reg0 ?_)
 refine Ch.as rfl rfl rfl rfl rfl ?_
 refine Ch.nil (Fin.go (Tr.seq (Tr.seq (Tr.reg0 ?_))))
 refine Ch.mv rfl rfl rfl rfl rfl ?_
 refine Ch.oo rfl rfl rfl (ok_eqnil rfl Tryz.underlying22 (vl rfl)) ?_
 refine Ch.nil (Fin.go ?_)
 refine Tr.ex 4 rfl (fun z1 => Tr.fact 4 rfl fun hz1 => ?_)
 refine Tr.cn rfl (fun h1 q1 => ?_) (fun h1 q1 => ?_)
 ·
  refine Tr.seq (Tr.reg0 ?_)
  refine Ch.as rfl rfl rfl rfl rfl ?_
  refine Ch.nil (Fin.go (Tr.ret ?_))
  refine Fin.then_ret ?_
  refine Fin.ret1 rfl (OutW.bse _ _) rfl ?_
  · (have hl0 : l = [] := (by simpa using hz1 h1)); subst hl0; exact nil_slice 1
 ·
  refine Tr.skip (Fin.go (Tr.seq (Tr.regT ?_)))
  refine TO.oo rfl rfl rfl (ok_buildSlice (xs := []) (rows := []) rfl rfl Tryz.underlying22 sz3 z3 rfl (by decide) trivial (by decide)) ?_
  refine TO.mv rfl rfl rfl rfl rfl ?_
  refine TO.pad ?_
  refine TO.efs 0 rfl rfl (by decide) (ef_append rfl rfl (by decide) rfl Tryz.underlying22 sz3 by3 z3 rfl (by decide) ⟨_, rfl, full_le _ _⟩ (vl rfl) (by simp only [List.length_map, List.length_append, List.length_cons, List.length_nil]; unfold maxLen; omega) (by simp only [List.length_map, List.length_append, List.length_cons, List.length_nil]; omega) (appR_full (by exact List.Mem.head _) (vl rfl))) (fun v1 => ?_)
  refine TO.as rfl rfl rfl rfl rfl ?_
  refine TO.nil (Fin.go (Tr.ret ?_))
  refine Fin.ret1 rfl (OutW.bse _ _) rfl ?_
  · exact Pr.le_trans (andIs_le _ _) (Pr.le_of_eq (by simp))
set_option maxRecDepth 20000 in
theorem w_CompAscI {l : List Int} (hl : Asc l) (hs : l.length ≤ 1000000) : Fun Tryz.prog 62 [ints l] (ints l) := by
 refine Fun.of Tryz.func62 rfl rfl (by exact Nat.le_of_ble_eq_true rfl) fun M0 w0 => ?_
 refine Tr.seq (Tr.reg0 ?_)
 refine Ch.as rfl rfl rfl rfl rfl ?_
 refine Ch.nil (Fin.go (Tr.seq (Tr.seq (Tr.reg0 ?_))))
 refine Ch.mv rfl rfl rfl rfl rfl ?_
 first
  | refine Ch.oo rfl rfl rfl (ok_lenm rfl Tryz.underlying22 (vl rfl)) ?_
  | refine Ch.oo rfl rfl rfl (ok_len rfl Tryz.underlying22 (vl rfl)) ?_
 refine Ch.oo rfl rfl rfl (ok_int rfl (vl rfl) (vl rfl) rfl) ?_
 refine Ch.nil (Fin.go ?_)
 refine Tr.cn rfl (fun h1 q1 => ?_) (fun h1 q1 => ?_)
 ·
  refine Tr.seq (Tr.reg0 ?_)
  refine Ch.mv rfl rfl rfl rfl rfl ?_
  refine Ch.as rfl rfl rfl rfl rfl ?_
  refine Ch.nil (Fin.go (Tr.ret ?_))
  refine Fin.then_ret ?_
  refine Fin.ret1 rfl (OutW.bse _ _) rfl ?_
  · first | exact Pr.le_refl _ | (refine int_eq ?_; simp_all; done) | (refine bool_eq ?_; simp_all; done) | (refine bool_eq ?_; simp_all; omega) | (refine int_eq ?_; omega)
 ·
  refine Tr.skip (Fin.go (Tr.seq (Tr.seq (Tr.reg0 ?_))))
  refine Ch.as rfl rfl rfl rfl rfl ?_
  refine Ch.nil (Fin.go (Tr.block ?_))
  refine Tr.loopw [(0, _)] ⟨ke rfl, trivial⟩ (fun k : Nat => [(3, int ((k : Nat) : Int))]) (fun k : Nat => 1 ≤ k ∧ k ≤ l.length) (fun k : Nat => l.length - k) 1 (⟨by omega, by omega⟩) ⟨ke rfl, trivial⟩ ?_
  rintro k ⟨hk1, hk2⟩
  refine Tr.seq (Tr.seq (Tr.reg0 ?_))
  refine Ch.mv rfl rfl rfl rfl rfl ?_
  refine Ch.mv rfl rfl rfl rfl rfl ?_
  first
   | refine Ch.oo rfl rfl rfl (ok_lenm rfl Tryz.underlying22 (vl rfl)) ?_
   | refine Ch.oo rfl rfl rfl (ok_len rfl Tryz.underlying22 (vl rfl)) ?_
  refine Ch.oo rfl rfl rfl (ok_int rfl (vl rfl) (vl rfl) rfl) ?_
  refine Ch.nil (Fin.go ?_)
  refine Tr.cn rfl (fun h2 q2 => ?_) (fun h2 q2 => ?_)
  ·
   have hkl : k < l.length := lt_of_dec h2
   obtain ⟨x, hx⟩ := at_ hkl
   obtain ⟨p, hp⟩ := at_ (l := l) (k := k - 1) (by omega)
   have hpx := asc_ne hl (by omega) hp hx
   refine Tr.skip (Fin.go (Tr.seq (Tr.block (Tr.seq ?_))))
   refine Tr.reg1 mixed (by kernel_rfl) ?_
   refine Ch.mv rfl rfl rfl rfl rfl ?_
   refine Ch.mv rfl rfl rfl rfl rfl ?_
   refine Ch.oo rfl rfl rfl (ok_indexAddr rfl Tryz.underlying22 sz3 (vl rfl) (vl rfl) (by omega) (row_at hx)) ?_
   refine Ch.oo rfl rfl rfl (ok_load1 rfl one3 (vl rfl)) ?_
   refine Ch.mv rfl rfl rfl rfl rfl ?_
   refine Ch.mv rfl rfl rfl rfl rfl ?_
   first
    | (refine Ch.oo rfl rfl rfl (ok_sub rfl (vl rfl) (vl rfl) ?hin) ?_; case hin => unfold InI; omega)
    | refine Ch.oo rfl rfl rfl (ok_int rfl (vl rfl) (vl rfl) rfl) ?_
   refine Ch.oo rfl rfl rfl (ok_indexAddr rfl Tryz.underlying22 sz3 (vl rfl) (vl rfl) (by omega) (pred_ints hp (by omega))) ?_
   refine Ch.oo rfl rfl rfl (ok_load1 rfl one3 (vl rfl)) ?_
   refine Ch.oo rfl rfl rfl (ok_int rfl (vl rfl) (vl rfl) rfl) ?_
   refine Ch.nil (Fin.go ?_)
   refine Tr.w3 0 3 25 rfl rfl rfl ?_
   refine Tr.cn rfl (fun h3 q3 => ?_) (fun h3 q3 => ?_)
   ·
    exfalso; omega
   ·
    refine Tr.skip (Fin.block (Fin.go (Tr.reg0 ?_)))
    refine Ch.mv rfl rfl rfl rfl rfl ?_
    first
     | (refine Ch.oo rfl rfl rfl (ok_add rfl (vl rfl) (vl rfl) ?hin) ?_; case hin => unfold InI; omega)
     | refine Ch.oo rfl rfl rfl (ok_int rfl (vl rfl) (vl rfl) rfl) ?_
    refine Ch.as rfl rfl rfl rfl rfl ?_
    refine Ch.nil ?_
    exact Fin.fam_same (k + 1) ⟨⟨by omega, by omega⟩, by omega⟩ ⟨⟨_, rfl, int_succ k⟩, ke rfl, trivial⟩
  ·
   have := h2
   refine Tr.exit ?_
   refine Fin.then_exit ?_
   refine Fin.then_exit ?_
   refine Fin.block_here ?_
   refine Fin.go (Tr.seq (Tr.reg0 ?_))
   refine Ch.mv rfl rfl rfl rfl rfl ?_
   refine Ch.as rfl rfl rfl rfl rfl ?_
   refine Ch.nil (Fin.go (Tr.ret ?_))
   refine Fin.ret1 rfl (OutW.bse _ _) rfl ?_
   · first | exact Pr.le_refl _ | (refine int_eq ?_; simp_all; done) | (refine bool_eq ?_; simp_all; done) | (refine bool_eq ?_; simp_all; omega) | (refine int_eq ?_; omega)
abbrev entP (n : Int) (own : List Int) : Pr := agg [int n, any, any, ints own]
def InR (own : List Int) (m : Nat) : Prop := ∀ i ∈ own, 0 ≤ i ∧ i < (m : Int)
instance (own : List Int) (m : Nat) : Decidable (InR own m) := inferInstanceAs (Decidable (∀ i ∈ own, 0 ≤ i ∧ i < (m : Int)))
theorem asc_le {l : List Int} (h : Asc l) : ∀ (d i : Nat) {x y : Int}, l[i]? = some x → l[i + d]? = some y → x ≤ y
  | 0, i, x, y, hx, hy => by rw [Nat.add_zero, hx] at hy; cases hy; exact Int.le_refl _
  | d + 1, i, x, y, hx, hy => by
    have hlt : i + d < l.length := by
      rcases Nat.lt_or_ge (i + (d + 1)) l.length with h' | h'
      · omega
      · rw [List.getElem?_eq_none h'] at hy; cases hy
    have h1 := asc_le h d i hx (List.getElem?_eq_getElem hlt)
    have h2 := h (i + d) _ y (List.getElem?_eq_getElem hlt) (by rw [show i + d + 1 = i + (d + 1) by omega]; exact hy)
    omega
theorem inR_iff {own : List Int} (ha : Asc own) {m : Nat} {a z : Int} (h0 : own[0]? = some a) (h1 : own[own.length - 1]? = some z) : InR own m ↔ (0 ≤ a ∧ z < m) := by
  constructor
  · intro h; exact ⟨(h a (List.mem_of_getElem? h0)).1, (h z (List.mem_of_getElem? h1)).2⟩
  · rintro ⟨h2, h3⟩ i hi
    obtain ⟨j, hj⟩ := List.mem_iff_getElem?.1 hi
    have hlt : j < own.length := by rcases Nat.lt_or_ge j own.length with h | h; exact h; rw [List.getElem?_eq_none h] at hj; cases hj
    have h4 := asc_le ha j 0 h0 (by rw [Nat.zero_add]; exact hj)
    have h5 := asc_le ha (own.length - 1 - j) j hj (by rw [show j + (own.length - 1 - j) = own.length - 1 by omega]; exact h1)
    omega
theorem last_int {l : List Int} {z : Int} (h0 : 0 < l.length) (h : l[l.length - 1]? = some z) : (l.map fun n => [int n])[(((l.length : Nat) : Int) - 1).toNat]? = some [int z] := by
  rw [show (((l.length : Nat) : Int) - 1).toNat = l.length - 1 by omega, List.getElem?_map, h]; rfl

set_option maxRecDepth 20000 in
theorem w_indices {l : List Fnd} {n : Int} {own : List Int} (ha : Asc own) (hs : own.length ≤ 12) : Fun Tryz.prog 35 [fnds l, entP n own] (tup [ints own, bool (decide (InR own l.length))]) := by
 refine Fun.of Tryz.func35 rfl rfl (by exact Nat.le_of_ble_eq_true rfl) fun M0 w0 => ?_
 refine Tr.lenm 0 rfl fun hlm_0 => ?_
 refine Tr.seq (Tr.reg0 ?_)
 refine Ch.oo rfl rfl rfl (ok_box rfl (VL.le (vl rfl) (agg_cellsP _))) ?_
 refine Ch.as rfl rfl rfl rfl rfl ?_
 refine Ch.as rfl rfl rfl rfl rfl ?_
 refine Ch.nil (Fin.go (Tr.seq (Tr.reg0 ?_)))
 refine Ch.oo rfl rfl rfl (ok_fieldAddr rfl fo35_3 (vl rfl) rfl) ?_
 refine Ch.oo rfl rfl rfl (ok_load1 rfl one22 (vl rfl)) ?_
 refine Ch.oo rfl rfl rfl (ok_call rfl (w_CloneP (by omega)) ⟨ke rfl, trivial⟩) ?_
 refine Ch.as rfl rfl rfl rfl rfl ?_
 refine Ch.nil (Fin.go (Tr.seq (Tr.reg0 ?_)))
 refine Ch.mv rfl rfl rfl rfl rfl ?_
 refine Ch.oo rfl rfl rfl (ok_call rfl (w_SortAsc (by assumption) (by omega)) ⟨ke rfl, trivial⟩) ?_
 refine Ch.nil (Fin.go (Tr.seq (Tr.reg0 ?_)))
 refine Ch.mv rfl rfl rfl rfl rfl ?_
 refine Ch.oo rfl rfl rfl (ok_call rfl (w_CompAscI (by assumption) (by omega)) ⟨ke rfl, trivial⟩) ?_
 refine Ch.as rfl rfl rfl rfl rfl ?_
 refine Ch.nil (Fin.go (Tr.seq ?_))
 refine Tr.reg1 mixed (by kernel_rfl) ?_
 refine Ch.mv rfl rfl rfl rfl rfl ?_
 refine Ch.mv rfl rfl rfl rfl rfl ?_
 first
  | refine Ch.oo rfl rfl rfl (ok_lenm rfl Tryz.underlying22 (vl rfl)) ?_
  | refine Ch.oo rfl rfl rfl (ok_len rfl Tryz.underlying22 (vl rfl)) ?_
 refine Ch.oo rfl rfl rfl (ok_int rfl (vl rfl) (vl rfl) rfl) ?_
 refine Ch.mv rfl rfl rfl rfl rfl ?_
 refine Ch.cs 18 rfl (fun h1 q1 => ?_) (fun h1 q1 => ?_)
 ·
  iterate 5 refine Ch.nf h1 rfl rfl rfl rfl rfl ?_
  iterate 9 refine Ch.u rfl rfl rfl rfl rfl ?_
  refine Ch.nf h1 rfl rfl rfl rfl rfl ?_
  refine Ch.oo rfl rfl rfl (ok_pick_t rfl (vl rfl) h1 (vl rfl)) ?_
  refine Ch.as rfl rfl rfl rfl rfl ?_
  refine Ch.as rfl rfl rfl rfl rfl ?_
  refine Ch.nil (Fin.go ?_)
  refine Tr.w2 4 5 rfl rfl ?_
  refine Tr.ret ?_
  refine Fin.ret2 rfl (OutW.bse _ _) rfl ?_ rfl ?_
  · first | exact Pr.le_refl _ | (refine int_eq ?_; simp_all; done) | (refine bool_eq ?_; simp_all; done) | (refine bool_eq ?_; simp_all; omega) | (refine int_eq ?_; omega)
  · refine bool_eq ?_; symm; rw [decide_eq_true_eq]; intro i hi; have hn : own = [] := List.eq_nil_of_length_eq_zero (by omega); rw [hn] at hi; cases hi
 ·
  have hpos : 0 < own.length := by omega
  obtain ⟨a, h0⟩ := at_ (l := own) (k := 0) hpos
  obtain ⟨z, hz⟩ := at_ (l := own) (k := own.length - 1) (by omega)
  have hiff := inR_iff ha (m := l.length) h0 hz
  refine Ch.ym h1 rfl rfl rfl rfl rfl rfl rfl ?_
  refine Ch.y h1 rfl rfl rfl rfl rfl (ok_indexAddr rfl Tryz.underlying22 sz3 (vl rfl) (vl rfl) (by omega) (row_at (k := 0) h0)) ?_
  refine Ch.y h1 rfl rfl rfl rfl rfl (ok_load1 rfl one3 (vl rfl)) ?_
  refine Ch.y h1 rfl rfl rfl rfl rfl (ok_int rfl (vl rfl) (vl rfl) rfl) ?_
  refine Ch.ym h1 rfl rfl rfl rfl rfl rfl rfl ?_
  refine Ch.cs 23 rfl (fun h2 q2 => ?_) (fun h2 q2 => ?_)
  ·
   refine Ch.ym h2 rfl rfl rfl rfl rfl rfl rfl ?_
   refine Ch.ym h2 rfl rfl rfl rfl rfl rfl rfl ?_
   first
    | refine Ch.y h2 rfl rfl rfl rfl rfl (ok_lenm rfl Tryz.underlying22 (vl rfl)) ?_
    | refine Ch.y h2 rfl rfl rfl rfl rfl (ok_len rfl Tryz.underlying22 (vl rfl)) ?_
   first
    | (refine Ch.y h2 rfl rfl rfl rfl rfl (ok_sub rfl (vl rfl) (vl rfl) ?hin) ?_; case hin => unfold InI; omega)
    | refine Ch.y h2 rfl rfl rfl rfl rfl (ok_int rfl (vl rfl) (vl rfl) rfl) ?_
   refine Ch.y h2 rfl rfl rfl rfl rfl (ok_indexAddr rfl Tryz.underlying22 sz3 (vl rfl) (vl rfl) (by omega) (last_int hpos hz)) ?_
   refine Ch.y h2 rfl rfl rfl rfl rfl (ok_load1 rfl one3 (vl rfl)) ?_
   refine Ch.ym h2 rfl rfl rfl rfl rfl rfl rfl ?_
   first
    | refine Ch.y h2 rfl rfl rfl rfl rfl (ok_lenm rfl Tryz.underlying27 (vl rfl)) ?_
    | refine Ch.y h2 rfl rfl rfl rfl rfl (ok_len rfl Tryz.underlying27 (vl rfl)) ?_
   refine Ch.y h2 rfl rfl rfl rfl rfl (ok_int rfl (vl rfl) (vl rfl) rfl) ?_
   refine Ch.y h1 rfl rfl rfl rfl rfl (ok_pick_t rfl (vl rfl) h2 (vl rfl)) ?_
   refine Ch.oo rfl rfl rfl (ok_pick_f rfl (vl rfl) h1 (vl rfl)) ?_
   refine Ch.as rfl rfl rfl rfl rfl ?_
   refine Ch.as rfl rfl rfl rfl rfl ?_
   refine Ch.nil (Fin.go ?_)
   refine Tr.w2 4 5 rfl rfl ?_
   refine Tr.ret ?_
   refine Fin.ret2 rfl (OutW.bse _ _) rfl ?_ rfl ?_
   · first | exact Pr.le_refl _ | (refine int_eq ?_; simp_all; done) | (refine bool_eq ?_; simp_all; done) | (refine bool_eq ?_; simp_all; omega) | (refine int_eq ?_; omega)
   · refine bool_eq ?_; rw [decide_eq_decide, hiff]; omega
  ·
   iterate 9 refine Ch.nt h2 rfl rfl rfl rfl rfl ?_
   refine Ch.y h1 rfl rfl rfl rfl rfl (ok_pick_f rfl (vl rfl) h2 (vl rfl)) ?_
   refine Ch.oo rfl rfl rfl (ok_pick_f rfl (vl rfl) h1 (vl rfl)) ?_
   refine Ch.as rfl rfl rfl rfl rfl ?_
   refine Ch.as rfl rfl rfl rfl rfl ?_
   refine Ch.nil (Fin.go ?_)
   refine Tr.w2 4 5 rfl rfl ?_
   refine Tr.ret ?_
   refine Fin.ret2 rfl (OutW.bse _ _) rfl ?_ rfl ?_
   · first | exact Pr.le_refl _ | (refine int_eq ?_; simp_all; done) | (refine bool_eq ?_; simp_all; done) | (refine bool_eq ?_; simp_all; omega) | (refine int_eq ?_; omega)
   · refine bool_eq ?_; symm; rw [decide_eq_false_iff_not, hiff]; omega
end Go.Proofs.YthmnoekgicggnaaGreat
namespace Go.Proofs.YthmnoekgicggnaaGreat
open Go Go.RowKit Cp
set_option maxRecDepth 20000 in
theorem w_ins1F {rows : List (List Pr)} {b : Int} (hb : b ≤ 1) : Fun Tryz.prog 105 [slice 8 rows, int 0, int b, any] (unit_) := by
 refine Fun.of Tryz.func105 rfl rfl (by exact Nat.le_of_ble_eq_true rfl) fun M0 w0 => ?_
 refine Tr.seq (Tr.reg0 ?_)
 refine Ch.mv rfl rfl rfl rfl rfl ?_
 first
  | (refine Ch.oo rfl rfl rfl (ok_add rfl (vl rfl) (vl rfl) ?hin) ?_; case hin => unfold InI; omega)
  | refine Ch.oo rfl rfl rfl (ok_int rfl (vl rfl) (vl rfl) rfl) ?_
 refine Ch.as rfl rfl rfl rfl rfl ?_
 refine Ch.nil (Fin.go (Tr.block ?_))
 refine Tr.loopw [(0, _), (1, _), (2, _), (3, _)] ⟨ke rfl, ke rfl, ke rfl, ke rfl, trivial⟩ (fun i : Int => [(8, int i)]) (fun i : Int => i = 1) (fun i : Int => 0) 1 (rfl) ⟨ke rfl, trivial⟩ ?_
 rintro i hi
 refine Tr.seq (Tr.seq (Tr.reg0 ?_))
 refine Ch.mv rfl rfl rfl rfl rfl ?_
 refine Ch.mv rfl rfl rfl rfl rfl ?_
 refine Ch.oo rfl rfl rfl (ok_int rfl (vl rfl) (vl rfl) rfl) ?_
 refine Ch.nil (Fin.go ?_)
 refine Tr.cn rfl (fun h1 q1 => ?_) (fun h1 q1 => ?_)
 ·
  have := h1
  exfalso; omega
 ·
  have := h1
  refine Tr.exit ?_
  refine Fin.then_exit ?_
  refine Fin.then_exit ?_
  refine Fin.block_here ?_
  exact Fin.ret0 rfl
set_option maxRecDepth 20000 in
theorem w_pdq1F {rows : List (List Pr)} {b : Int} (h0 : 0 ≤ b) (hb : b ≤ 1) : Fun Tryz.prog 65 [slice 8 rows, int 0, int b, any, any] (unit_) := by
 refine Fun.of Tryz.func65 rfl rfl (by exact Nat.le_of_ble_eq_true rfl) fun M0 w0 => ?_
 refine Tr.seq (Tr.reg0 ?_)
 refine Ch.as rfl rfl rfl rfl rfl ?_
 refine Ch.nil (Fin.go (Tr.seq (Tr.reg0 ?_)))
 refine Ch.as rfl rfl rfl rfl rfl ?_
 refine Ch.nil (Fin.go (Tr.block ?_))
 refine Tr.loopw [(0, _), (4, _)] ⟨ke rfl, ke rfl, trivial⟩ (fun (u : Unit) => [(1, int 0), (2, int b)]) (fun (u : Unit) => True) (fun (u : Unit) => 0) () (trivial) ⟨ke rfl, ke rfl, trivial⟩ ?_
 rintro u _
 refine Tr.block (Tr.seq (Tr.reg0 ?_))
 refine Ch.mv rfl rfl rfl rfl rfl ?_
 refine Ch.mv rfl rfl rfl rfl rfl ?_
 first
  | (refine Ch.oo rfl rfl rfl (ok_sub rfl (vl rfl) (vl rfl) ?hin) ?_; case hin => unfold InI; omega)
  | refine Ch.oo rfl rfl rfl (ok_int rfl (vl rfl) (vl rfl) rfl) ?_
 refine Ch.as rfl rfl rfl rfl rfl ?_
 refine Ch.nil (Fin.go (Tr.seq (Tr.seq (Tr.reg0 ?_))))
 refine Ch.mv rfl rfl rfl rfl rfl ?_
 refine Ch.oo rfl rfl rfl (ok_int rfl (vl rfl) (vl rfl) rfl) ?_
 refine Ch.nil (Fin.go ?_)
 refine Tr.cn rfl (fun h1 q1 => ?_) (fun h1 q1 => ?_)
 ·
  refine Tr.seq (Tr.reg0 ?_)
  iterate 4 refine Ch.mv rfl rfl rfl rfl rfl ?_
  refine Ch.oo rfl rfl rfl (ok_call rfl (w_ins1F (by omega)) ⟨ke rfl, ke rfl, ke rfl, ke rfl, trivial⟩) ?_
  refine Ch.nil (Fin.go ?_)
  refine Tr.weak [] trivial ?_
  refine Tr.ret ?_
  refine Fin.then_ret ?_
  refine Fin.block_ret ?_
  refine Fin.then_ret ?_
  refine Fin.block_ret ?_
  exact Fin.ret0r rfl
 ·
  exfalso; omega
set_option maxRecDepth 20000 in
theorem w_Sort1F {rows : List (List Pr)} (hs : rows.length ≤ 1) : Fun Tryz.prog 38 [slice 8 rows, any] (unit_) := by
 refine Fun.of Tryz.func38 rfl rfl (by exact Nat.le_of_ble_eq_true rfl) fun M0 w0 => ?_
 have hw : IntKind.u64.wrap ((rows.length : Nat) : Int) = rows.length := IntWalk.u64_in _ ⟨by omega, by omega⟩
 refine Tr.seq (Tr.reg0 ?_)
 refine Ch.mv rfl rfl rfl rfl rfl ?_
 first
  | refine Ch.oo rfl rfl rfl (ok_lenm rfl Tryz.underlying29 (vl rfl)) ?_
  | refine Ch.oo rfl rfl rfl (ok_len rfl Tryz.underlying29 (vl rfl)) ?_
 refine Ch.as rfl rfl rfl rfl rfl ?_
 refine Ch.nil (Fin.go (Tr.reg0 ?_))
 iterate 3 refine Ch.mv rfl rfl rfl rfl rfl ?_
 first
  | refine Ch.oo rfl rfl rfl (ok_convI rfl Tryz.underlying3 Tryz.underlying105 (vl rfl) (by unfold InI; omega)) ?_
  | refine Ch.oo rfl rfl rfl (ok_conv rfl Tryz.underlying3 Tryz.underlying105 (vl rfl)) ?_
 refine Ch.oo rfl rfl rfl (ok_call rfl (w_BLen (by omega) (by omega)) ⟨ke rfl, trivial⟩) ?_
 refine Ch.mv rfl rfl rfl rfl rfl ?_
 refine Ch.oo rfl rfl rfl (ok_call rfl (w_pdq1F (rows := rows) (b := (rows.length : Int)) (by omega) (by omega)) ⟨ke rfl, ke rfl, ke rfl, ⟨_, rfl, le_any _⟩, ⟨_, rfl, le_any _⟩, trivial⟩) ?_
 refine Ch.nil ?_
 exact Fin.ret0 rfl
/-- A fact. -/
structure Fct where
  ent : Int
  subj : List UInt8
  kind : Int
  alg : Int
  bits : Int
  num : Int
  text : List UInt8
  fnd : Int
deriving DecidableEq
abbrev rowFc (f : Fct) : List Pr := [int f.ent, str f.subj, int f.kind, int f.alg, int f.bits, int f.num, str f.text, int f.fnd]
abbrev fcts (l : List Fct) : Pr := slice 8 (l.map rowFc)
abbrev better (f g : Fnd) : Prop := f.day > g.day ∨ f.day = g.day ∧ f.conf > g.conf
/-- What one more finding makes of the decisive ones. -/
def stepM (l : List Fnd) (t o : Int) (m : List (Plc × Int)) (i : Int) : List (Plc × Int) :=
  match l[i.toNat]? with
  | none => m
  | some f => if f.day > t ∨ f.day < t - o then m else match Cp.look m (plcOf f) with
    | none => updM m (plcOf f) i
    | some j => match l[j.toNat]? with
      | none => m
      | some g => if better f g then updM m (plcOf f) i else m
def decM (l : List Fnd) (own : List Int) (t o : Int) : List (Plc × Int) := own.foldl (stepM l t o) []
theorem dec_take {l : List Fnd} {own : List Int} {t o : Int} {k : Nat} {i : Int} (h : own[k]? = some i) : decM l (own.take (k + 1)) t o = stepM l t o (decM l (own.take k) t o) i := by
  unfold decM; rw [List.take_add_one, h, List.foldl_append]; rfl
theorem step_out {l : List Fnd} {t o : Int} {m : List (Plc × Int)} {i : Int} {f : Fnd} (hf : l[i.toNat]? = some f) (h : f.day > t ∨ f.day < t - o) : stepM l t o m i = m := by unfold stepM; rw [hf]; exact if_pos h
theorem step_new {l : List Fnd} {t o : Int} {m : List (Plc × Int)} {i : Int} {f : Fnd} (hf : l[i.toNat]? = some f) (h : ¬ (f.day > t ∨ f.day < t - o)) (hl : (Cp.look m (plcOf f)).isSome = false) : stepM l t o m i = updM m (plcOf f) i := by
  unfold stepM; rw [hf]
  show (if _ then _ else _) = _
  rw [if_neg h]
  cases h2 : Cp.look m (plcOf f) with
  | none => rfl
  | some j => rw [h2] at hl; cases hl
theorem step_old {l : List Fnd} {t o : Int} {m : List (Plc × Int)} {i : Int} {f g : Fnd} (hf : l[i.toNat]? = some f) (h : ¬ (f.day > t ∨ f.day < t - o)) (hl : (Cp.look m (plcOf f)).isSome = true) (hg : l[((Cp.look m (plcOf f)).getD 0).toNat]? = some g) : stepM l t o m i = if better f g then updM m (plcOf f) i else m := by
  unfold stepM; rw [hf]
  show (if _ then _ else _) = _
  rw [if_neg h]
  cases h2 : Cp.look m (plcOf f) with
  | none => rw [h2] at hl; cases hl
  | some j => rw [h2] at hg; simp only [Option.getD_some] at hg; simp only [hg]
theorem look_mem {m : List (Plc × Int)} {k : Plc} {j : Int} (h : Cp.look m k = some j) : ∃ p ∈ m, p.2 = j := by
  unfold Cp.look at h
  cases hf : m.find? fun p => decide (k = p.1) with
  | none => rw [hf] at h; cases h
  | some p => rw [hf] at h; simp at h; exact ⟨p, List.mem_of_find?_eq_some hf, h⟩
theorem upd_mem {m : List (Plc × Int)} {k : Plc} {v : Int} {p : Plc × Int} (h : p ∈ updM m k v) : p ∈ m ∨ p = (k, v) := by
  unfold updM at h
  split at h
  · exact (List.mem_or_eq_of_mem_set h)
  · simpa using h
abbrev ValsIn (m : List (Plc × Int)) (n : Nat) : Prop := ∀ p ∈ m, 0 ≤ p.2 ∧ p.2 < (n : Int)
theorem step_in {l : List Fnd} {t o : Int} {m : List (Plc × Int)} {i : Int} {n : Nat} (h : ValsIn m n) (hi : 0 ≤ i ∧ i < (n : Int)) : ValsIn (stepM l t o m i) n := by
  intro p hp
  have hu : ∀ k, p ∈ updM m k i → 0 ≤ p.2 ∧ p.2 < (n : Int) := fun k hk => by
    rcases upd_mem hk with h1 | rfl
    · exact h p h1
    · exact hi
  unfold stepM at hp
  split at hp
  · exact h p hp
  · split at hp
    · exact h p hp
    · split at hp
      · exact hu _ hp
      · split at hp
        · exact h p hp
        · split at hp
          · exact hu _ hp
          · exact h p hp
theorem dec_in {l : List Fnd} {t o : Int} {n : Nat} : ∀ (own : List Int) (m : List (Plc × Int)), ValsIn m n → InR own n → ValsIn (own.foldl (stepM l t o) m) n
  | [], _, h, _ => h
  | i :: own, m, h, hi => dec_in own _ (step_in h (hi i (by simp))) (fun j hj => hi j (List.mem_cons_of_mem _ hj))
theorem dec_in' {l : List Fnd} {t o : Int} {own : List Int} (k : Nat) (hi : InR own l.length) : ValsIn (decM l (own.take k) t o) l.length := dec_in _ [] (by intro p hp; simp at hp) (fun j hj => hi j (List.mem_of_mem_take hj))
theorem look_in {m : List (Plc × Int)} {n : Nat} (h : ValsIn m n) {k : Plc} (hs : (Cp.look m k).isSome = true) : 0 ≤ (Cp.look m k).getD 0 ∧ (Cp.look m k).getD 0 < (n : Int) := by
  cases h2 : Cp.look m k with
  | none => rw [h2] at hs; cases hs
  | some j => obtain ⟨p, hp, rfl⟩ := look_mem h2; exact h p hp
/-- The fact of a finding. -/
def factOf (l : List Fnd) (n i : Int) : Option Fct := match l[i.toNat]? with | some f => if f.kind = 8 then none else some ⟨n, f.subj, f.kind, f.alg, f.bits, f.num, f.text, i⟩ | none => none
def outF (l : List Fnd) (n : Int) (m : List (Plc × Int)) (seen : List Nat) : List Fct := seen.filterMap fun q => (m[q]?).bind fun p => factOf l n p.2
theorem nodup_sub : ∀ {l m : List Nat}, l.Nodup → (∀ q ∈ l, q ∈ m) → l.length ≤ m.length
  | [], _, _, _ => Nat.zero_le _
  | a :: l, m, hn, h => by
    have h1 := List.nodup_cons.1 hn
    have h2 := nodup_sub (l := l) (m := m.erase a) h1.2 (fun q hq => (List.mem_erase_of_ne (by rintro rfl; exact h1.1 hq)).2 (h q (List.mem_cons_of_mem _ hq)))
    have h3 := List.length_erase_of_mem (h a (by simp))
    have h4 : 0 < m.length := List.length_pos_of_mem (h a (by simp))
    simp only [List.length_cons]; omega
theorem nodup_len {m : Nat} {l : List Nat} (hn : l.Nodup) (h : ∀ q ∈ l, q < m) : l.length ≤ m := by
  simpa using nodup_sub hn (m := List.range m) (fun q hq => List.mem_range.2 (h q hq))
theorem outF_len (l : List Fnd) (n : Int) (m : List (Plc × Int)) (seen : List Nat) : (outF l n m seen).length ≤ seen.length := List.length_filterMap_le _ _
theorem fm_one {α β : Type} (f : α → Option β) (q : α) : [q].filterMap f = (f q).toList := by
  cases h : f q <;> simp [h]
theorem outF_snoc (l : List Fnd) (n : Int) (m : List (Plc × Int)) (seen : List Nat) (q : Nat) : outF l n m (seen ++ [q]) = outF l n m seen ++ ((m[q]?).bind fun p => factOf l n p.2).toList := by
  unfold outF; rw [List.filterMap_append, fm_one]
theorem seen_next {seen : List Nat} {q m : Nat} (hn : seen.Nodup) (hl : ∀ x ∈ seen, x < m) (hq : q ∉ seen) (hqm : q < m) : ((seen ++ [q]).Nodup ∧ ∀ x ∈ seen ++ [q], x < m) ∧ m - (seen ++ [q]).length < m - seen.length := by
  have h1 : (seen ++ [q]).Nodup := by
    rw [List.nodup_append]; exact ⟨hn, by simp, fun a ha b hb => by simp at hb; subst hb; rintro rfl; exact hq ha⟩
  have h2 : ∀ x ∈ seen ++ [q], x < m := fun x hx => by
    rcases List.mem_append.1 hx with h | h
    · exact hl x h
    · simp at h; subst h; exact hqm
  have h3 := nodup_len h1 h2
  refine ⟨⟨h1, h2⟩, ?_⟩
  simp only [List.length_append, List.length_cons, List.length_nil] at h3 ⊢; omega
theorem lt_of_at {α : Type} {l : List α} {k : Nat} {x : α} (h : l[k]? = some x) : k < l.length := by
  rcases Nat.lt_or_ge k l.length with h' | h'
  · exact h'
  · rw [List.getElem?_eq_none h'] at h; cases h
theorem fact_no {l : List Fnd} {n i : Int} {g : Fnd} (hg : l[i.toNat]? = some g) (h : g.kind = 8) : factOf l n i = none := by unfold factOf; rw [hg]; exact if_pos h
theorem fact_yes {l : List Fnd} {n i : Int} {g : Fnd} (hg : l[i.toNat]? = some g) (h : ¬ g.kind = 8) : factOf l n i = some ⟨n, g.subj, g.kind, g.alg, g.bits, g.num, g.text, i⟩ := by unfold factOf; rw [hg]; exact if_neg h
theorem outF_all {l : List Fnd} {n : Int} {m : List (Plc × Int)} {seen : List Nat} (h1 : m.length ≤ 1) (hn : seen.Nodup) (hlt : ∀ q ∈ seen, q < m.length) (hall : ∀ q, q < m.length → q ∈ seen) : outF l n m seen = m.filterMap fun p => factOf l n p.2 := by
  have hlen := nodup_len hn hlt
  match m, h1 with
  | [], _ =>
    have : seen = [] := List.eq_nil_of_length_eq_zero (by simpa using hlen)
    subst this; rfl
  | [p], _ =>
    have h0 := hall 0 (by simp)
    match seen, hlen with
    | [], _ => cases h0
    | [q], _ => simp at h0; subst h0; unfold outF; rw [fm_one, fm_one]; rfl
    | a :: b :: r, h => simp only [List.length_cons, List.length_nil] at h; omega

set_option maxRecDepth 20000 in
theorem w_Facts1 {l : List Fnd} {n t o : Int} {own : List Int} (hN : NormP l) (hf : ∀ f ∈ l, f.fits) (ht : 0 ≤ t ∧ t ≤ 40000) (ho : 0 ≤ o ∧ o ≤ 4000) (ha : Asc own) (hi : InR own l.length) (hs : own.length ≤ 12) (h1m : (decM l own t o).length ≤ 1) : Fun Tryz.prog 12 [fnds l, entP n own, int t, int o] (tup [fcts ((decM l own t o).filterMap fun p => factOf l n p.2), int 0]) := by
 refine Fun.of Tryz.func12 rfl rfl (by exact Nat.le_of_ble_eq_true rfl) fun M0 w0 => ?_
 haveI := Classical.propDecidable (NormP l)
 obtain ⟨ht1, ht2⟩ := ht
 obtain ⟨ho1, ho2⟩ := ho
 have hNl := hN.len
 refine Tr.seq (Tr.reg0 ?_)
 refine Ch.oo rfl rfl rfl (ok_box rfl (VL.le (vl rfl) (agg_cellsP _))) ?_
 refine Ch.as rfl rfl rfl rfl rfl ?_
 refine Ch.as rfl rfl rfl rfl rfl ?_
 refine Ch.nil (Fin.go (Tr.seq (Tr.reg0 ?_)))
 refine Ch.mv rfl rfl rfl rfl rfl ?_
 refine Ch.oo rfl rfl rfl (ok_loadA rfl agg35 sz35 (vl rfl) rfl rfl) ?_
 refine Ch.oo rfl rfl rfl (ok_call rfl (w_indices (by assumption) (by assumption)) ⟨ke rfl, ke rfl, trivial⟩) ?_
 refine Ch.mv rfl rfl rfl rfl rfl ?_
 refine Ch.oo rfl rfl rfl (ok_extract rfl (vl rfl) rfl) ?_
 refine Ch.oo rfl rfl rfl (ok_extract rfl (vl rfl) rfl) ?_
 refine Ch.as rfl rfl rfl rfl rfl ?_
 refine Ch.as rfl rfl rfl rfl rfl ?_
 refine Ch.nil (Fin.go (Tr.seq (Tr.block (Tr.seq (Tr.reg0 ?_)))))
 refine Ch.mv rfl rfl rfl rfl rfl ?_
 refine Ch.oo rfl rfl rfl (ok_call rfl (w_FNormal (by assumption)) ⟨ke rfl, trivial⟩) ?_
 refine Ch.oo rfl rfl rfl (ok_not rfl (vl rfl)) ?_
 refine Ch.as rfl rfl rfl rfl rfl ?_
 refine Ch.nil (Fin.go ?_)
 refine Tr.w7 0 2 3 5 10 11 28 rfl rfl rfl rfl rfl rfl rfl ?_
 refine Tr.cn rfl (fun h1 q1 => ?_) (fun h1 q1 => ?_)
 ·
  exfalso; simp_all
 ·
  refine Tr.seq (Tr.reg0 ?_)
  refine Ch.mv rfl rfl rfl rfl rfl ?_
  refine Ch.oo rfl rfl rfl (ok_int rfl (vl rfl) (vl rfl) rfl) ?_
  refine Ch.mv rfl rfl rfl rfl rfl ?_
  refine Ch.cs 35 rfl (fun h2 q2 => ?_) (fun h2 q2 => ?_)
  ·
   exfalso; omega
  ·
   refine Ch.ym h2 rfl rfl rfl rfl rfl rfl rfl ?_
   refine Ch.y h2 rfl rfl rfl rfl rfl (ok_int rfl (vl rfl) (vl rfl) rfl) ?_
   refine Ch.oo rfl rfl rfl (ok_pick_f rfl (vl rfl) h2 (vl rfl)) ?_
   refine Ch.mv rfl rfl rfl rfl rfl ?_
   refine Ch.cs 39 rfl (fun h3 q3 => ?_) (fun h3 q3 => ?_)
   ·
    exfalso; omega
   ·
    refine Ch.ym h3 rfl rfl rfl rfl rfl rfl rfl ?_
    refine Ch.y h3 rfl rfl rfl rfl rfl (ok_int rfl (vl rfl) (vl rfl) rfl) ?_
    refine Ch.oo rfl rfl rfl (ok_pick_f rfl (vl rfl) h3 (vl rfl)) ?_
    refine Ch.mv rfl rfl rfl rfl rfl ?_
    refine Ch.cs 43 rfl (fun h4 q4 => ?_) (fun h4 q4 => ?_)
    ·
     exfalso; omega
    ·
     refine Ch.ym h4 rfl rfl rfl rfl rfl rfl rfl ?_
     refine Ch.y h4 rfl rfl rfl rfl rfl (ok_int rfl (vl rfl) (vl rfl) rfl) ?_
     refine Ch.oo rfl rfl rfl (ok_pick_f rfl (vl rfl) h4 (vl rfl)) ?_
     refine Ch.as rfl rfl rfl rfl rfl ?_
     refine Ch.nil (Fin.go ?_)
     refine Tr.w7 0 2 3 5 10 11 32 rfl rfl rfl rfl rfl rfl rfl ?_
     refine Tr.cn rfl (fun h5 q5 => ?_) (fun h5 q5 => ?_)
     ·
      exfalso; omega
     ·
      refine Tr.seq (Tr.reg0 ?_)
      refine Ch.mv rfl rfl rfl rfl rfl ?_
      refine Ch.oo rfl rfl rfl (ok_not rfl (vl rfl)) ?_
      refine Ch.as rfl rfl rfl rfl rfl ?_
      refine Ch.nil (Fin.go ?_)
      refine Tr.cn rfl (fun h6 q6 => ?_) (fun h6 q6 => ?_)
      ·
       exfalso; simp_all
      ·
       refine Tr.skip (Fin.block (Fin.go (Tr.seq (Tr.regT ?_))))
       refine TO.mkmap encPl rfl rfl (by decide) rfl (fun b1 => ?_)
       refine TO.as rfl rfl rfl rfl rfl ?_
       refine TO.nil (Fin.go (Tr.seq (Tr.seq (Tr.reg0 ?_))))
       refine Ch.mv rfl rfl rfl rfl rfl ?_
       first
        | refine Ch.oo rfl rfl rfl (ok_lenm rfl Tryz.underlying22 (vl rfl)) ?_
        | refine Ch.oo rfl rfl rfl (ok_len rfl Tryz.underlying22 (vl rfl)) ?_
       refine Ch.mv rfl rfl rfl rfl rfl ?_
       refine Ch.nil (Fin.go ?_)
       refine Tr.w8 0 2 3 5 12 51 52 53 rfl rfl rfl rfl rfl rfl rfl rfl ?_
       refine Tr.block ?_
       refine Tr.loopR [(0, _), (2, _), (3, _), (5, _), (12, _), (51, _), (52, _)] ⟨ke rfl, ke rfl, ke rfl, ke rfl, ke rfl, ke rfl, ke rfl, trivial⟩ (fun k : Nat => [(53, int ((k : Nat) : Int))]) (fun k : Nat => Hp M0 w0 noS ([mapR encPl b1 (decM l (own.take k) t o)])) (fun k : Nat => k ≤ (own).length) (fun k : Nat => (own).length - k) 0 (Nat.zero_le _) ⟨ke rfl, trivial⟩ (fun _ _ h => h) ?_
       rintro k hle_k
       refine Tr.seq (Tr.reg0 ?_)
       refine Ch.oo rfl rfl rfl (ok_int rfl (vl rfl) (vl rfl) rfl) ?_
       refine Ch.nil (Fin.go (Tr.seq ?_))
       refine Tr.cn rfl (fun h7 q7 => ?_) (fun h7 q7 => ?_)
       ·
        have hk_k : k < (own).length := lt_of_dec h7
        obtain ⟨i, hx_k⟩ := at_ hk_k
        have hii := hi i (List.mem_of_getElem? hx_k)
        obtain ⟨f, hf0⟩ := at_ (l := l) (k := i.toNat) (by omega)
        have hstep := dec_take (l := l) (t := t) (o := o) hx_k
        refine Tr.skip (Fin.go (Tr.seq (Tr.block (Tr.seq (Tr.reg0 ?_)))))
        refine Ch.oo rfl rfl rfl (ok_indexAddr rfl Tryz.underlying22 sz3 (vl rfl) (vl rfl) (by omega) (row_at hx_k)) ?_
        refine Ch.oo rfl rfl rfl (ok_load1 rfl one3 (vl rfl)) ?_
        refine Ch.as rfl rfl rfl rfl rfl ?_
        refine Ch.nil (Fin.go (Tr.seq (Tr.regT ?_)))
        refine TO.mv rfl rfl rfl rfl rfl ?_
        refine TO.mv rfl rfl rfl rfl rfl ?_
        refine TO.oo rfl rfl rfl (ok_indexAddr rfl Tryz.underlying27 sz42 (vl rfl) (vl rfl) (by omega) (row_atI hf0)) ?_
        refine TO.oo rfl rfl rfl (ok_loadA rfl agg42 sz42 (vl rfl) rfl rfl) ?_
        refine TO.alloc rfl rfl (by decide) rfl z42 zo42 (fun b2 => ?_)
        refine TO.store_all 0 rfl rfl rfl (vl rfl) (VL.le (vl rfl) (agg_cellsP _)) rfl sz42 rfl rfl ?_
        refine TO.freeze 0 15 rfl rfl ?_
        refine TO.nil (Fin.go ?_)
        refine Tr.w10 0 2 3 5 12 14 15 51 52 53 rfl rfl rfl rfl rfl rfl rfl rfl rfl rfl ?_
        refine Tr.seq (Tr.seq (Tr.reg0 ?_))
        refine Ch.oo rfl rfl rfl (ok_fieldAddr rfl fo42_3 (vl rfl) rfl) ?_
        refine Ch.oo rfl rfl rfl (ok_load1 rfl one3 (vl rfl)) ?_
        refine Ch.mv rfl rfl rfl rfl rfl ?_
        refine Ch.oo rfl rfl rfl (ok_int rfl (vl rfl) (vl rfl) rfl) ?_
        refine Ch.mv rfl rfl rfl rfl rfl ?_
        refine Ch.cs 65 rfl (fun h8 q8 => ?_) (fun h8 q8 => ?_)
        ·
         iterate 6 refine Ch.nf h8 rfl rfl rfl rfl rfl ?_
         refine Ch.oo rfl rfl rfl (ok_pick_t rfl (vl rfl) h8 (vl rfl)) ?_
         refine Ch.nil (Fin.go ?_)
         refine Tr.w11 0 2 3 5 12 14 15 51 52 53 72 rfl rfl rfl rfl rfl rfl rfl rfl rfl rfl rfl ?_
         refine Tr.cond rfl (fun _ => ?_) (fun h => nomatch h)
         refine Tr.exit ?_
         refine Fin.then_exit ?_
         refine Fin.block_here ?_
         refine Fin.go (Tr.reg0 ?_)
         first
          | (refine Ch.oo rfl rfl rfl (ok_add rfl (vl rfl) (vl rfl) ?hin) ?_; case hin => unfold InI; omega)
          | refine Ch.oo rfl rfl rfl (ok_int rfl (vl rfl) (vl rfl) rfl) ?_
         refine Ch.mv rfl rfl rfl rfl rfl ?_
         refine Ch.nil ?_
         first
          | rw [step_out hf0 (by omega)] at hstep
          | rw [step_new hf0 (by omega) hsome0] at hstep
          | rw [step_old hf0 (by omega) hsome hg, if_pos (by unfold better; omega)] at hstep
          | rw [step_old hf0 (by omega) hsome hg, if_neg (by unfold better; omega)] at hstep
         exact Fin.fam (k + 1) ⟨hk_k, by omega⟩ ⟨⟨_, rfl, int_succ k⟩, ke rfl, ke rfl, ke rfl, ke rfl, ke rfl, ke rfl, ke rfl, trivial⟩ (fun _ _ h => by rw [hstep]; exact h)
        ·
         refine Ch.y h8 rfl rfl rfl rfl rfl (ok_fieldAddr rfl fo42_3 (vl rfl) rfl) ?_
         refine Ch.y h8 rfl rfl rfl rfl rfl (ok_load1 rfl one3 (vl rfl)) ?_
         refine Ch.ym h8 rfl rfl rfl rfl rfl rfl rfl ?_
         refine Ch.ym h8 rfl rfl rfl rfl rfl rfl rfl ?_
         first
          | (refine Ch.y h8 rfl rfl rfl rfl rfl (ok_sub rfl (vl rfl) (vl rfl) ?hin) ?_; case hin => unfold InI; omega)
          | refine Ch.y h8 rfl rfl rfl rfl rfl (ok_int rfl (vl rfl) (vl rfl) rfl) ?_
         refine Ch.y h8 rfl rfl rfl rfl rfl (ok_int rfl (vl rfl) (vl rfl) rfl) ?_
         refine Ch.oo rfl rfl rfl (ok_pick_f rfl (vl rfl) h8 (vl rfl)) ?_
         refine Ch.nil (Fin.go ?_)
         refine Tr.w11 0 2 3 5 12 14 15 51 52 53 72 rfl rfl rfl rfl rfl rfl rfl rfl rfl rfl rfl ?_
         refine Tr.cn rfl (fun h9 q9 => ?_) (fun h9 q9 => ?_)
         ·
          refine Tr.exit ?_
          refine Fin.then_exit ?_
          refine Fin.block_here ?_
          refine Fin.go (Tr.reg0 ?_)
          first
           | (refine Ch.oo rfl rfl rfl (ok_add rfl (vl rfl) (vl rfl) ?hin) ?_; case hin => unfold InI; omega)
           | refine Ch.oo rfl rfl rfl (ok_int rfl (vl rfl) (vl rfl) rfl) ?_
          refine Ch.mv rfl rfl rfl rfl rfl ?_
          refine Ch.nil ?_
          first
           | rw [step_out hf0 (by omega)] at hstep
           | rw [step_new hf0 (by omega) hsome0] at hstep
           | rw [step_old hf0 (by omega) hsome hg, if_pos (by unfold better; omega)] at hstep
           | rw [step_old hf0 (by omega) hsome hg, if_neg (by unfold better; omega)] at hstep
          exact Fin.fam (k + 1) ⟨hk_k, by omega⟩ ⟨⟨_, rfl, int_succ k⟩, ke rfl, ke rfl, ke rfl, ke rfl, ke rfl, ke rfl, ke rfl, trivial⟩ (fun _ _ h => by rw [hstep]; exact h)
         ·
          refine Tr.skip (Fin.go (Tr.seq (Tr.regT ?_)))
          refine TO.mv rfl rfl rfl rfl rfl ?_
          refine TO.oo rfl rfl rfl (ok_loadA rfl agg42 sz42 (vl rfl) rfl rfl) ?_
          refine TO.oo rfl rfl rfl (ok_call rfl (w_placeOf) ⟨ke rfl, trivial⟩) ?_
          refine TO.rd 0 rfl rfl rfl (by decide) (rd_lookup (plcOf f) mapT_place rfl (vl rfl) (vl rfl) (fun _ _ _ h => agg_is h)) ?_
          refine TO.mv rfl rfl rfl rfl rfl ?_
          refine TO.oo rfl rfl rfl (ok_extract rfl (vl rfl) rfl) ?_
          refine TO.oo rfl rfl rfl (ok_extract rfl (vl rfl) rfl) ?_
          refine TO.as rfl rfl rfl rfl rfl ?_
          refine TO.as rfl rfl rfl rfl rfl ?_
          refine TO.nil (Fin.go ?_)
          refine Tr.w12 0 2 3 5 12 14 15 16 17 51 52 53 rfl rfl rfl rfl rfl rfl rfl rfl rfl rfl rfl rfl ?_
          refine Tr.seq ?_
          refine Tr.reg1 mixed (by kernel_rfl) ?_
          refine Ch.mv rfl rfl rfl rfl rfl ?_
          refine Ch.oo rfl rfl rfl (ok_not rfl (vl rfl)) ?_
          refine Ch.mv rfl rfl rfl rfl rfl ?_
          refine Ch.cs 82 rfl (fun h10 q10 => ?_) (fun h10 q10 => ?_)
          ·
           have hsome0 : (Cp.look (decM l (own.take k) t o) (plcOf f)).isSome = false := by simpa using h10
           iterate 8 refine Ch.nf h10 rfl rfl rfl rfl rfl ?_
           refine Ch.oo rfl rfl rfl (ok_pick_t rfl (vl rfl) h10 (vl rfl)) ?_
           refine Ch.mv rfl rfl rfl rfl rfl ?_
           iterate 9 refine Ch.nd rfl rfl rfl rfl rfl rfl ?_
           iterate 8 refine Ch.u rfl rfl rfl rfl rfl ?_
           refine Ch.nd rfl rfl rfl rfl rfl rfl ?_
           refine Ch.oo rfl rfl rfl (ok_pick_t rfl (vl rfl) rfl (vl rfl)) ?_
           refine Ch.nil (Fin.go ?_)
           refine Tr.w11 0 2 3 5 12 14 15 51 52 53 111 rfl rfl rfl rfl rfl rfl rfl rfl rfl rfl rfl ?_
           refine Tr.cond rfl (fun _ => ?_) (fun h => nomatch h)
           refine Tr.regT ?_
           refine TO.mv rfl rfl rfl rfl rfl ?_
           refine TO.oo rfl rfl rfl (ok_loadA rfl agg42 sz42 (vl rfl) rfl rfl) ?_
           refine TO.oo rfl rfl rfl (ok_call rfl (w_placeOf) ⟨ke rfl, trivial⟩) ?_
           refine TO.mv rfl rfl rfl rfl rfl ?_
           refine TO.ef0 0 rfl rfl (ef_mapupd (plcOf f) mapT_place rfl rfl rfl (vl rfl) (vl rfl) (fun _ _ _ h => agg_is h) (vl rfl)) ?_
           refine TO.nil (Fin.block (Fin.go ?_))
           refine Tr.w8 0 2 3 5 12 51 52 53 rfl rfl rfl rfl rfl rfl rfl rfl ?_
           refine Tr.reg0 ?_
           first
            | (refine Ch.oo rfl rfl rfl (ok_add rfl (vl rfl) (vl rfl) ?hin) ?_; case hin => unfold InI; omega)
            | refine Ch.oo rfl rfl rfl (ok_int rfl (vl rfl) (vl rfl) rfl) ?_
           refine Ch.mv rfl rfl rfl rfl rfl ?_
           refine Ch.nil ?_
           first
            | rw [step_out hf0 (by omega)] at hstep
            | rw [step_new hf0 (by omega) hsome0] at hstep
            | rw [step_old hf0 (by omega) hsome hg, if_pos (by unfold better; omega)] at hstep
            | rw [step_old hf0 (by omega) hsome hg, if_neg (by unfold better; omega)] at hstep
           exact Fin.fam (k + 1) ⟨hk_k, by omega⟩ ⟨⟨_, rfl, int_succ k⟩, ke rfl, ke rfl, ke rfl, ke rfl, ke rfl, ke rfl, ke rfl, trivial⟩ (fun _ _ h => by rw [hstep]; exact h)
          ·
           have hsome : (Cp.look (decM l (own.take k) t o) (plcOf f)).isSome = true := by simpa using h10
           have hjj := look_in (dec_in' (t := t) (o := o) k hi) hsome
           obtain ⟨g, hg⟩ := at_ (l := l) (k := ((Cp.look (decM l (own.take k) t o) (plcOf f)).getD 0).toNat) (by omega)
           refine Ch.y h10 rfl rfl rfl rfl rfl (ok_fieldAddr rfl fo42_3 (vl rfl) rfl) ?_
           refine Ch.y h10 rfl rfl rfl rfl rfl (ok_load1 rfl one3 (vl rfl)) ?_
           refine Ch.ym h10 rfl rfl rfl rfl rfl rfl rfl ?_
           refine Ch.ym h10 rfl rfl rfl rfl rfl rfl rfl ?_
           refine Ch.y h10 rfl rfl rfl rfl rfl (ok_indexAddr rfl Tryz.underlying27 sz42 (vl rfl) (vl rfl) (by omega) (row_atI hg)) ?_
           refine Ch.y h10 rfl rfl rfl rfl rfl (ok_fieldAddr rfl fo42_3 (vl rfl) rfl) ?_
           refine Ch.y h10 rfl rfl rfl rfl rfl (ok_load1 rfl one3 (vl rfl)) ?_
           refine Ch.y h10 rfl rfl rfl rfl rfl (ok_int rfl (vl rfl) (vl rfl) rfl) ?_
           refine Ch.oo rfl rfl rfl (ok_pick_f rfl (vl rfl) h10 (vl rfl)) ?_
           refine Ch.mv rfl rfl rfl rfl rfl ?_
           refine Ch.cs 92 rfl (fun h11 q11 => ?_) (fun h11 q11 => ?_)
           ·
            iterate 9 refine Ch.nf h11 rfl rfl rfl rfl rfl ?_
            iterate 8 refine Ch.u rfl rfl rfl rfl rfl ?_
            refine Ch.nf h11 rfl rfl rfl rfl rfl ?_
            refine Ch.oo rfl rfl rfl (ok_pick_t rfl (vl rfl) h11 (vl rfl)) ?_
            refine Ch.nil (Fin.go ?_)
            refine Tr.w11 0 2 3 5 12 14 15 51 52 53 111 rfl rfl rfl rfl rfl rfl rfl rfl rfl rfl rfl ?_
            refine Tr.cond rfl (fun _ => ?_) (fun h => nomatch h)
            refine Tr.regT ?_
            refine TO.mv rfl rfl rfl rfl rfl ?_
            refine TO.oo rfl rfl rfl (ok_loadA rfl agg42 sz42 (vl rfl) rfl rfl) ?_
            refine TO.oo rfl rfl rfl (ok_call rfl (w_placeOf) ⟨ke rfl, trivial⟩) ?_
            refine TO.mv rfl rfl rfl rfl rfl ?_
            refine TO.ef0 0 rfl rfl (ef_mapupd (plcOf f) mapT_place rfl rfl rfl (vl rfl) (vl rfl) (fun _ _ _ h => agg_is h) (vl rfl)) ?_
            refine TO.nil (Fin.block (Fin.go ?_))
            refine Tr.w8 0 2 3 5 12 51 52 53 rfl rfl rfl rfl rfl rfl rfl rfl ?_
            refine Tr.reg0 ?_
            first
             | (refine Ch.oo rfl rfl rfl (ok_add rfl (vl rfl) (vl rfl) ?hin) ?_; case hin => unfold InI; omega)
             | refine Ch.oo rfl rfl rfl (ok_int rfl (vl rfl) (vl rfl) rfl) ?_
            refine Ch.mv rfl rfl rfl rfl rfl ?_
            refine Ch.nil ?_
            first
             | rw [step_out hf0 (by omega)] at hstep
             | rw [step_new hf0 (by omega) hsome0] at hstep
             | rw [step_old hf0 (by omega) hsome hg, if_pos (by unfold better; omega)] at hstep
             | rw [step_old hf0 (by omega) hsome hg, if_neg (by unfold better; omega)] at hstep
            exact Fin.fam (k + 1) ⟨hk_k, by omega⟩ ⟨⟨_, rfl, int_succ k⟩, ke rfl, ke rfl, ke rfl, ke rfl, ke rfl, ke rfl, ke rfl, trivial⟩ (fun _ _ h => by rw [hstep]; exact h)
           ·
            refine Ch.y h11 rfl rfl rfl rfl rfl (ok_fieldAddr rfl fo42_3 (vl rfl) rfl) ?_
            refine Ch.y h11 rfl rfl rfl rfl rfl (ok_load1 rfl one3 (vl rfl)) ?_
            refine Ch.ym h11 rfl rfl rfl rfl rfl rfl rfl ?_
            refine Ch.ym h11 rfl rfl rfl rfl rfl rfl rfl ?_
            refine Ch.y h11 rfl rfl rfl rfl rfl (ok_indexAddr rfl Tryz.underlying27 sz42 (vl rfl) (vl rfl) (by omega) (row_atI hg)) ?_
            refine Ch.y h11 rfl rfl rfl rfl rfl (ok_fieldAddr rfl fo42_3 (vl rfl) rfl) ?_
            refine Ch.y h11 rfl rfl rfl rfl rfl (ok_load1 rfl one3 (vl rfl)) ?_
            refine Ch.y h11 rfl rfl rfl rfl rfl (ok_int rfl (vl rfl) (vl rfl) rfl) ?_
            refine Ch.ym h11 rfl rfl rfl rfl rfl rfl rfl ?_
            refine Ch.cs 101 rfl (fun h12 q12 => ?_) (fun h12 q12 => ?_)
            ·
             refine Ch.y h12 rfl rfl rfl rfl rfl (ok_fieldAddr rfl fo42_4 (vl rfl) rfl) ?_
             refine Ch.y h12 rfl rfl rfl rfl rfl (ok_load1 rfl one3 (vl rfl)) ?_
             refine Ch.ym h12 rfl rfl rfl rfl rfl rfl rfl ?_
             refine Ch.ym h12 rfl rfl rfl rfl rfl rfl rfl ?_
             refine Ch.y h12 rfl rfl rfl rfl rfl (ok_indexAddr rfl Tryz.underlying27 sz42 (vl rfl) (vl rfl) (by omega) (row_atI hg)) ?_
             refine Ch.y h12 rfl rfl rfl rfl rfl (ok_fieldAddr rfl fo42_4 (vl rfl) rfl) ?_
             refine Ch.y h12 rfl rfl rfl rfl rfl (ok_load1 rfl one3 (vl rfl)) ?_
             refine Ch.y h12 rfl rfl rfl rfl rfl (ok_int rfl (vl rfl) (vl rfl) rfl) ?_
             refine Ch.y h11 rfl rfl rfl rfl rfl (ok_pick_t rfl (vl rfl) h12 (vl rfl)) ?_
             refine Ch.oo rfl rfl rfl (ok_pick_f rfl (vl rfl) h11 (vl rfl)) ?_
             refine Ch.nil (Fin.go ?_)
             refine Tr.w11 0 2 3 5 12 14 15 51 52 53 111 rfl rfl rfl rfl rfl rfl rfl rfl rfl rfl rfl ?_
             refine Tr.cn rfl (fun h13 q13 => ?_) (fun h13 q13 => ?_)
             ·
              refine Tr.regT ?_
              refine TO.mv rfl rfl rfl rfl rfl ?_
              refine TO.oo rfl rfl rfl (ok_loadA rfl agg42 sz42 (vl rfl) rfl rfl) ?_
              refine TO.oo rfl rfl rfl (ok_call rfl (w_placeOf) ⟨ke rfl, trivial⟩) ?_
              refine TO.mv rfl rfl rfl rfl rfl ?_
              refine TO.ef0 0 rfl rfl (ef_mapupd (plcOf f) mapT_place rfl rfl rfl (vl rfl) (vl rfl) (fun _ _ _ h => agg_is h) (vl rfl)) ?_
              refine TO.nil (Fin.block (Fin.go ?_))
              refine Tr.w8 0 2 3 5 12 51 52 53 rfl rfl rfl rfl rfl rfl rfl rfl ?_
              refine Tr.reg0 ?_
              first
               | (refine Ch.oo rfl rfl rfl (ok_add rfl (vl rfl) (vl rfl) ?hin) ?_; case hin => unfold InI; omega)
               | refine Ch.oo rfl rfl rfl (ok_int rfl (vl rfl) (vl rfl) rfl) ?_
              refine Ch.mv rfl rfl rfl rfl rfl ?_
              refine Ch.nil ?_
              first
               | rw [step_out hf0 (by omega)] at hstep
               | rw [step_new hf0 (by omega) hsome0] at hstep
               | rw [step_old hf0 (by omega) hsome hg, if_pos (by unfold better; omega)] at hstep
               | rw [step_old hf0 (by omega) hsome hg, if_neg (by unfold better; omega)] at hstep
              exact Fin.fam (k + 1) ⟨hk_k, by omega⟩ ⟨⟨_, rfl, int_succ k⟩, ke rfl, ke rfl, ke rfl, ke rfl, ke rfl, ke rfl, ke rfl, trivial⟩ (fun _ _ h => by rw [hstep]; exact h)
             ·
              refine Tr.skip (Fin.block (Fin.go (Tr.reg0 ?_)))
              first
               | (refine Ch.oo rfl rfl rfl (ok_add rfl (vl rfl) (vl rfl) ?hin) ?_; case hin => unfold InI; omega)
               | refine Ch.oo rfl rfl rfl (ok_int rfl (vl rfl) (vl rfl) rfl) ?_
              refine Ch.mv rfl rfl rfl rfl rfl ?_
              refine Ch.nil ?_
              first
               | rw [step_out hf0 (by omega)] at hstep
               | rw [step_new hf0 (by omega) hsome0] at hstep
               | rw [step_old hf0 (by omega) hsome hg, if_pos (by unfold better; omega)] at hstep
               | rw [step_old hf0 (by omega) hsome hg, if_neg (by unfold better; omega)] at hstep
              exact Fin.fam (k + 1) ⟨hk_k, by omega⟩ ⟨⟨_, rfl, int_succ k⟩, ke rfl, ke rfl, ke rfl, ke rfl, ke rfl, ke rfl, ke rfl, trivial⟩ (fun _ _ h => by rw [hstep]; exact h)
            ·
             iterate 8 refine Ch.nt h12 rfl rfl rfl rfl rfl ?_
             refine Ch.y h11 rfl rfl rfl rfl rfl (ok_pick_f rfl (vl rfl) h12 (vl rfl)) ?_
             refine Ch.oo rfl rfl rfl (ok_pick_f rfl (vl rfl) h11 (vl rfl)) ?_
             refine Ch.nil (Fin.go ?_)
             refine Tr.w11 0 2 3 5 12 14 15 51 52 53 111 rfl rfl rfl rfl rfl rfl rfl rfl rfl rfl rfl ?_
             refine Tr.cond rfl (fun h => nomatch h) (fun _ => ?_)
             refine Tr.skip (Fin.block (Fin.go (Tr.reg0 ?_)))
             first
              | (refine Ch.oo rfl rfl rfl (ok_add rfl (vl rfl) (vl rfl) ?hin) ?_; case hin => unfold InI; omega)
              | refine Ch.oo rfl rfl rfl (ok_int rfl (vl rfl) (vl rfl) rfl) ?_
             refine Ch.mv rfl rfl rfl rfl rfl ?_
             refine Ch.nil ?_
             first
              | rw [step_out hf0 (by omega)] at hstep
              | rw [step_new hf0 (by omega) hsome0] at hstep
              | rw [step_old hf0 (by omega) hsome hg, if_pos (by unfold better; omega)] at hstep
              | rw [step_old hf0 (by omega) hsome hg, if_neg (by unfold better; omega)] at hstep
             exact Fin.fam (k + 1) ⟨hk_k, by omega⟩ ⟨⟨_, rfl, int_succ k⟩, ke rfl, ke rfl, ke rfl, ke rfl, ke rfl, ke rfl, ke rfl, trivial⟩ (fun _ _ h => by rw [hstep]; exact h)
       ·
        have he_k : k = (own).length := by have := ge_of_dec h7; omega
        subst he_k
        rw [List.take_length]
        refine Tr.exit ?_
        refine Fin.then_exit ?_
        refine Fin.then_exit ?_
        refine Fin.block_here ?_
        refine Fin.go (Tr.seq (Tr.reg0 ?_))
        refine Ch.as rfl rfl rfl rfl rfl ?_
        refine Ch.nil (Fin.go (Tr.seq (Tr.seq (Tr.regT ?_))))
        refine TO.mv rfl rfl rfl rfl rfl ?_
        refine TO.range mapT_place rfl rfl (by decide) rfl (vl rfl) (show _ = some (mapR encPl _ _) from rfl : _[0]? = _) (fun b3 => ?_)
        refine TO.nil (Fin.go (Tr.block ?_))
        refine Tr.addnil 40 8 ?_
        refine Tr.loopD1V1 [(0, _), (5, _), (118, _)] ⟨ke rfl, ke rfl, ke rfl, trivial⟩ (fun (seen : List Nat) v => [(18, andIs v (fcts (outF l n (decM l own t o) seen)))]) (fun (seen : List Nat) v => Hp M0 w0 noS ([appRes 40 8 v, iterR b3 b1 (decM l own t o).length seen, mapR encPl b1 (decM l own t o)])) (fun (seen : List Nat) => seen.Nodup ∧ ∀ q ∈ seen, q < (decM l own t o).length) (fun (seen : List Nat) => (decM l own t o).length - seen.length) ([]) (.slice none 0 0) (⟨List.nodup_nil, fun q hq => by cases hq⟩) ⟨⟨_, rfl, own_nil rfl⟩, trivial⟩ (fun _ _ h => h) ?_
        rintro seen v ⟨hnd, hlt⟩
        refine Tr.seq (Tr.regT ?_)
        refine TO.next (i := 1) (j := 2) rfl rfl (by decide) rfl (vl rfl) rfl rfl (fun hall1 => ?_) (fun q1 p1 hq1 hn1 => ?_)
        ·
         refine TO.oo rfl rfl rfl (ok_extract rfl (vl rfl) rfl) ?_
         refine TO.nil (Fin.go (Tr.seq ?_))
         refine Tr.cond rfl (fun h => nomatch h) (fun _ => ?_)
         refine Tr.exit ?_
         refine Fin.then_exit ?_
         refine Fin.then_exit ?_
         refine Fin.block_here ?_
         refine Fin.go (Tr.seq (Tr.reg0 ?_))
         refine Ch.mv rfl rfl rfl rfl rfl ?_
         refine Ch.oo rfl rfl rfl (ok_call rfl (w_Sort1F (by rw [List.length_map]; exact Nat.le_trans (outF_len ..) (Nat.le_trans (nodup_len hnd hlt) h1m))) ⟨⟨_, rfl, andIs_le _ _⟩, ⟨_, rfl, le_any _⟩, trivial⟩) ?_
         refine Ch.nil (Fin.go (Tr.seq (Tr.reg0 ?_)))
         refine Ch.mv rfl rfl rfl rfl rfl ?_
         refine Ch.as rfl rfl rfl rfl rfl ?_
         refine Ch.as rfl rfl rfl rfl rfl ?_
         refine Ch.nil (Fin.go (Tr.ret ?_))
         refine Fin.ret2 rfl (OutW.bse _ _) rfl ?_ rfl ?_
         · refine Pr.le_trans (andIs_le _ _) (Pr.le_of_eq (by rw [outF_all h1m hnd hlt hall1]))
         · first | exact Pr.le_refl _ | (refine int_eq ?_; simp_all; done) | (refine bool_eq ?_; simp_all; done) | (refine bool_eq ?_; simp_all; omega) | (refine int_eq ?_; omega)
        ·
         refine TO.oo rfl rfl rfl (ok_extract rfl (vl rfl) rfl) ?_
         refine TO.nil (Fin.go (Tr.seq ?_))
         refine Tr.cond rfl (fun _ => ?_) (fun h => nomatch h)
         refine Tr.skip (Fin.go (Tr.block (Tr.seq ?_)))
         have hin := (dec_in (l := l) (t := t) (o := o) own [] (by intro p hp; simp at hp) hi) p1 (List.mem_of_getElem? hq1)
         obtain ⟨g, hg⟩ := at_ (l := l) (k := p1.2.toNat) (by omega)
         have hof := outF_snoc l n (decM l own t o) seen q1
         rw [hq1] at hof
         have hol := Nat.le_trans (outF_len l n (decM l own t o) seen) (nodup_len hnd hlt)
         refine Tr.regT ?_
         refine TO.entry (i := 1) (j := 2) rfl rfl (by decide) rfl (vl rfl) rfl rfl hq1 ?_
         refine TO.oo rfl rfl rfl (ok_extract rfl (vl rfl) rfl) ?_
         refine TO.as rfl rfl rfl rfl rfl ?_
         refine TO.nil (Fin.go (Tr.seq (Tr.regT ?_)))
         refine TO.mv rfl rfl rfl rfl rfl ?_
         refine TO.mv rfl rfl rfl rfl rfl ?_
         refine TO.oo rfl rfl rfl (ok_indexAddr rfl Tryz.underlying27 sz42 (vl rfl) (vl rfl) (by omega) (row_atI hg)) ?_
         refine TO.oo rfl rfl rfl (ok_loadA rfl agg42 sz42 (vl rfl) rfl rfl) ?_
         refine TO.alloc rfl rfl (by decide) rfl z42 zo42 (fun b4 => ?_)
         refine TO.store_all 0 rfl rfl rfl (vl rfl) (VL.le (vl rfl) (agg_cellsP _)) rfl sz42 rfl rfl ?_
         refine TO.freeze 0 21 rfl rfl ?_
         refine TO.nil (Fin.go ?_)
         refine Tr.w6 0 5 18 20 21 118 rfl rfl rfl rfl rfl rfl ?_
         refine Tr.seq (Tr.reg0 ?_)
         refine Ch.oo rfl rfl rfl (ok_fieldAddr rfl fo42_5 (vl rfl) rfl) ?_
         refine Ch.oo rfl rfl rfl (ok_load1 rfl one3 (vl rfl)) ?_
         refine Ch.oo rfl rfl rfl (ok_int rfl (vl rfl) (vl rfl) rfl) ?_
         refine Ch.nil (Fin.go ?_)
         refine Tr.cn rfl (fun h14 q14 => ?_) (fun h14 q14 => ?_)
         ·
          refine Tr.regT ?_
          refine TO.mv rfl rfl rfl rfl rfl ?_
          refine TO.oo rfl rfl rfl (ok_fieldAddr rfl fo35_0 (vl rfl) rfl) ?_
          refine TO.oo rfl rfl rfl (ok_load1 rfl one3 (vl rfl)) ?_
          refine TO.oo rfl rfl rfl (ok_fieldAddr rfl fo42_6 (vl rfl) rfl) ?_
          refine TO.oo rfl rfl rfl (ok_load1 rfl one9 (vl rfl)) ?_
          refine TO.oo rfl rfl rfl (ok_fieldAddr rfl fo42_5 (vl rfl) rfl) ?_
          refine TO.oo rfl rfl rfl (ok_load1 rfl one3 (vl rfl)) ?_
          refine TO.oo rfl rfl rfl (ok_fieldAddr rfl fo42_7 (vl rfl) rfl) ?_
          refine TO.oo rfl rfl rfl (ok_loadA rfl agg38 sz38 (vl rfl) rfl rfl) ?_
          refine TO.oo rfl rfl rfl (ok_fieldAddr rfl fo42_8 (vl rfl) rfl) ?_
          refine TO.oo rfl rfl rfl (ok_load1 rfl one3 (vl rfl)) ?_
          refine TO.oo rfl rfl rfl (ok_fieldAddr rfl fo42_9 (vl rfl) rfl) ?_
          refine TO.oo rfl rfl rfl (ok_load1 rfl one9 (vl rfl)) ?_
          refine TO.mv rfl rfl rfl rfl rfl ?_
          refine TO.oo rfl rfl rfl (ok_build (rows := [(0, [_]), (1, [_]), (2, [_]), (3, _), (4, [_]), (5, [_]), (6, [_])]) rfl bl40 zo40 ⟨⟨rfl, (VL.le (vl rfl) (one_cellsP _))⟩, ⟨⟨rfl, (VL.le (vl rfl) (one_cellsP _))⟩, ⟨⟨rfl, (VL.le (vl rfl) (one_cellsP _))⟩, ⟨⟨rfl, (VL.le (vl rfl) (agg_cellsP _))⟩, ⟨⟨rfl, (VL.le (vl rfl) (one_cellsP _))⟩, ⟨⟨rfl, (VL.le (vl rfl) (one_cellsP _))⟩, ⟨⟨rfl, (VL.le (vl rfl) (one_cellsP _))⟩, trivial⟩⟩⟩⟩⟩⟩⟩ rfl) ?_
          refine TO.oo rfl rfl rfl (ok_buildSlice (xs := [.tmp 144]) (rows := [_]) rfl rfl Tryz.underlying29 sz40 z40 rfl (by decide) ⟨⟨(by exact rfl), (VL.le (vl rfl) (agg_cellsP _))⟩, trivial⟩ (by decide)) ?_
          refine TO.efs 0 rfl rfl (by decide) (ef_append rfl rfl (by decide) rfl Tryz.underlying29 sz40 by40 z40 rfl (by decide) ⟨_, rfl, andIs_le _ _⟩ ⟨_, rfl, full_le _ _⟩ (by simp only [List.length_map, List.length_append, List.length_cons, List.length_nil]; unfold maxLen; omega) (by simp only [List.length_map, List.length_append, List.length_cons, List.length_nil]; omega) (appR_is (by exact List.Mem.head _) ⟨_, rfl, andIs_is _ _⟩)) (fun v1 => ?_)
          refine TO.as rfl rfl rfl rfl rfl ?_
          refine TO.nil (Fin.block ?_)
          first
           | rw [show ((some p1).bind fun p => factOf l n p.2) = _ from fact_no hg (by omega)] at hof
           | rw [show ((some p1).bind fun p => factOf l n p.2) = _ from fact_yes hg (by omega)] at hof
          exact Fin.famD1V1 (seen ++ [q1]) v1 (seen_next hnd hlt hn1 (lt_of_at hq1)) ⟨⟨_, rfl, own_le (by rw [hof, List.map_append]; first | rfl | exact (List.append_nil _).symm)⟩, ke rfl, ke rfl, ke rfl, trivial⟩ (fun _ _ h => h)
         ·
          refine Tr.skip (Fin.block ?_)
          first
           | rw [show ((some p1).bind fun p => factOf l n p.2) = _ from fact_no hg (by omega)] at hof
           | rw [show ((some p1).bind fun p => factOf l n p.2) = _ from fact_yes hg (by omega)] at hof
          exact Fin.famD1V1 (seen ++ [q1]) v (seen_next hnd hlt hn1 (lt_of_at hq1)) ⟨⟨_, rfl, own_le (by rw [hof, List.map_append]; first | rfl | exact (List.append_nil _).symm)⟩, ke rfl, ke rfl, ke rfl, trivial⟩ (fun _ _ h => h)
end Go.Proofs.YthmnoekgicggnaaGreat
namespace Go.Proofs.YthmnoekgicggnaaGreat
open Go Go.RowKit Cp

abbrev rowU (u : Int × Int) : List Pr := [int u.1, int u.2]
abbrev usesP (l : List (Int × Int)) : Pr := slice 2 (l.map rowU)
def useOf (s : List UInt8) (f : Fct) : Option (Int × Int) := if f.subj = s ∧ f.kind = 1 then some (f.alg, f.bits) else none
def usesF (l : List Fct) (s : List UInt8) : List (Int × Int) := l.filterMap (useOf s)
theorem fm_take {α β : Type} (f : α → Option β) {l : List α} {k : Nat} {x : α} (h : l[k]? = some x) : (l.take (k + 1)).filterMap f = (l.take k).filterMap f ++ (f x).toList := by
  rw [List.take_add_one, h, List.filterMap_append]; show _ ++ [x].filterMap f = _; rw [fm_one]
theorem use_yes {s : List UInt8} {f : Fct} (h : f.subj = s) (h2 : f.kind = 1) : useOf s f = some (f.alg, f.bits) := if_pos ⟨h, h2⟩
theorem use_no {s : List UInt8} {f : Fct} (h : ¬ f.subj = s ∨ ¬ f.kind = 1) : useOf s f = none := if_neg (by rintro ⟨a, b⟩; rcases h with h | h; exact h a; exact h b)
theorem uses_len (l : List Fct) (s : List UInt8) (k : Nat) : (usesF (l.take k) s).length ≤ l.length := Nat.le_trans (List.length_filterMap_le _ _) (by simp; omega)
def alikeF (x y : Fct) : Bool := decide (x.ent = y.ent ∧ x.subj = y.subj ∧ x.kind = y.kind ∧ x.alg = y.alg ∧ x.bits = y.bits ∧ x.num = y.num ∧ x.text = y.text)
/-- The facts of l that are not in o. -/
def without (o : List Fct) (l : List Fct) : List Fct := l.filter fun x => !(o.any (alikeF x))
theorem fct_eq {x y : Fct} : x = y ↔ (x.ent = y.ent ∧ x.subj = y.subj ∧ x.kind = y.kind ∧ x.alg = y.alg ∧ x.bits = y.bits ∧ x.num = y.num ∧ x.text = y.text ∧ x.fnd = y.fnd) := by
  cases x; cases y; simp
set_option maxRecDepth 20000 in
theorem w_Uses {l : List Fct} {s : List UInt8} (hl : l.length ≤ 100000) : Fun Tryz.prog 20 [fcts l, str s] (usesP (usesF l s)) := by
 refine Fun.of Tryz.func20 rfl rfl (by exact Nat.le_of_ble_eq_true rfl) fun M0 w0 => ?_
 refine Tr.seq (Tr.reg0 ?_)
 refine Ch.as rfl rfl rfl rfl rfl ?_
 refine Ch.nil (Fin.go (Tr.seq (Tr.reg0 ?_)))
 refine Ch.as rfl rfl rfl rfl rfl ?_
 refine Ch.nil (Fin.go (Tr.seq (Tr.seq (Tr.reg0 ?_))))
 refine Ch.mv rfl rfl rfl rfl rfl ?_
 first
  | refine Ch.oo rfl rfl rfl (ok_lenm rfl Tryz.underlying29 (vl rfl)) ?_
  | refine Ch.oo rfl rfl rfl (ok_len rfl Tryz.underlying29 (vl rfl)) ?_
 refine Ch.mv rfl rfl rfl rfl rfl ?_
 refine Ch.nil (Fin.go (Tr.block ?_))
 refine Tr.addnil 38 2 ?_
 refine Tr.loopV1 [(1, _), (8, _), (9, _)] ⟨ke rfl, ke rfl, ke rfl, trivial⟩ (fun k v => [(10, int ((k : Nat) : Int)), (5, andIs v (usesP (usesF (l.take k) s)))]) (fun k v => Hp M0 w0 noS ([appRes 38 2 v])) (fun k : Nat => k ≤ (l).length) (fun k : Nat => (l).length - k) 0 (.slice none 0 0) (Nat.zero_le _) ⟨ke rfl, ⟨_, rfl, own_nil rfl⟩, trivial⟩ (fun _ _ h => h) ?_
 rintro k v hle_k
 refine Tr.seq (Tr.reg0 ?_)
 refine Ch.oo rfl rfl rfl (ok_int rfl (vl rfl) (vl rfl) rfl) ?_
 refine Ch.nil (Fin.go (Tr.seq ?_))
 refine Tr.cn rfl (fun h1 q1 => ?_) (fun h1 q1 => ?_)
 ·
  have hk_k : k < (l).length := lt_of_dec h1
  obtain ⟨x, hx_k⟩ := at_ hk_k
  have hul := uses_len l s k
  refine Tr.skip (Fin.go (Tr.seq (Tr.block (Tr.seq (Tr.regT ?_)))))
  refine TO.oo rfl rfl rfl (ok_indexAddr rfl Tryz.underlying29 sz40 (vl rfl) (vl rfl) (by omega) (by first | exact row_at (by assumption) | exact row_atI (by assumption) | assumption)) ?_
  refine TO.oo rfl rfl rfl (ok_loadA rfl agg40 sz40 (vl rfl) rfl rfl) ?_
  refine TO.alloc rfl rfl (by decide) rfl z40 zo40 (fun b1 => ?_)
  refine TO.store_all 0 rfl rfl rfl (vl rfl) (VL.le (vl rfl) (agg_cellsP _)) rfl sz40 rfl rfl ?_
  refine TO.freeze 0 7 rfl rfl ?_
  refine TO.nil (Fin.go (Tr.seq (Tr.reg0 ?_)))
  refine Ch.oo rfl rfl rfl (ok_fieldAddr rfl fo40_1 (vl rfl) rfl) ?_
  refine Ch.oo rfl rfl rfl (ok_load1 rfl one9 (vl rfl)) ?_
  refine Ch.mv rfl rfl rfl rfl rfl ?_
  refine Ch.oo rfl rfl rfl (ok_eqs rfl (vl rfl) (vl rfl)) ?_
  refine Ch.mv rfl rfl rfl rfl rfl ?_
  refine Ch.cs 18 rfl (fun h2 q2 => ?_) (fun h2 q2 => ?_)
  ·
   refine Ch.y h2 rfl rfl rfl rfl rfl (ok_fieldAddr rfl fo40_2 (vl rfl) rfl) ?_
   refine Ch.y h2 rfl rfl rfl rfl rfl (ok_load1 rfl one3 (vl rfl)) ?_
   refine Ch.y h2 rfl rfl rfl rfl rfl (ok_int rfl (vl rfl) (vl rfl) rfl) ?_
   refine Ch.oo rfl rfl rfl (ok_pick_t rfl (vl rfl) h2 (vl rfl)) ?_
   refine Ch.nil (Fin.go ?_)
   refine Tr.w7 1 5 7 8 9 10 22 rfl rfl rfl rfl rfl rfl rfl ?_
   refine Tr.cn rfl (fun h3 q3 => ?_) (fun h3 q3 => ?_)
   ·
    refine Tr.regT ?_
    refine TO.mv rfl rfl rfl rfl rfl ?_
    refine TO.oo rfl rfl rfl (ok_fieldAddr rfl fo40_3 (vl rfl) rfl) ?_
    refine TO.oo rfl rfl rfl (ok_loadA rfl agg38 sz38 (vl rfl) rfl rfl) ?_
    refine TO.oo rfl rfl rfl (ok_buildSlice (xs := [.tmp 25]) (rows := [_]) rfl rfl Tryz.underlying50 sz38 z38 rfl (by decide) ⟨⟨(by exact rfl), (VL.le (vl rfl) (agg_cellsP _))⟩, trivial⟩ (by decide)) ?_
    refine TO.efs 0 rfl rfl (by decide) (ef_append rfl rfl (by decide) rfl Tryz.underlying50 sz38 by38 z38 rfl (by decide) ⟨_, rfl, andIs_le _ _⟩ ⟨_, rfl, full_le _ _⟩ (by simp only [List.length_map, List.length_append, List.length_cons, List.length_nil]; unfold maxLen; omega) (by simp only [List.length_map, List.length_append, List.length_cons, List.length_nil]; omega) (appR_is (by exact List.Mem.head _) ⟨_, rfl, andIs_is _ _⟩)) (fun v1 => ?_)
    refine TO.as rfl rfl rfl rfl rfl ?_
    refine TO.nil (Fin.block (Fin.go (Tr.reg0 ?_)))
    first
     | (refine Ch.oo rfl rfl rfl (ok_add rfl (vl rfl) (vl rfl) ?hin) ?_; case hin => unfold InI; omega)
     | refine Ch.oo rfl rfl rfl (ok_int rfl (vl rfl) (vl rfl) rfl) ?_
    refine Ch.mv rfl rfl rfl rfl rfl ?_
    refine Ch.nil ?_
    have hus := fm_take (useOf s) hx_k
    first
     | rw [use_yes (by assumption) (by omega)] at hus
     | rw [use_no (by first | (left; assumption) | (right; omega))] at hus
    have hup : usesF (l.take (k + 1)) s = _ := hus
    exact Fin.famV1 (k + 1) v1 (⟨hk_k, by omega⟩) ⟨⟨_, rfl, int_succ k⟩, ⟨_, rfl, own_le (by rw [hup, List.map_append]; first | rfl | exact (List.append_nil _).symm)⟩, ke rfl, ke rfl, ke rfl, trivial⟩ (fun _ _ h => h)
   ·
    refine Tr.skip (Fin.block (Fin.go (Tr.reg0 ?_)))
    first
     | (refine Ch.oo rfl rfl rfl (ok_add rfl (vl rfl) (vl rfl) ?hin) ?_; case hin => unfold InI; omega)
     | refine Ch.oo rfl rfl rfl (ok_int rfl (vl rfl) (vl rfl) rfl) ?_
    refine Ch.mv rfl rfl rfl rfl rfl ?_
    refine Ch.nil ?_
    have hus := fm_take (useOf s) hx_k
    first
     | rw [use_yes (by assumption) (by omega)] at hus
     | rw [use_no (by first | (left; assumption) | (right; omega))] at hus
    have hup : usesF (l.take (k + 1)) s = _ := hus
    exact Fin.famV1 (k + 1) v (⟨hk_k, by omega⟩) ⟨⟨_, rfl, int_succ k⟩, ⟨_, rfl, own_le (by rw [hup, List.map_append]; first | rfl | exact (List.append_nil _).symm)⟩, ke rfl, ke rfl, ke rfl, trivial⟩ (fun _ _ h => h)
  ·
   iterate 3 refine Ch.nt h2 rfl rfl rfl rfl rfl ?_
   refine Ch.oo rfl rfl rfl (ok_pick_f rfl (vl rfl) h2 (vl rfl)) ?_
   refine Ch.nil (Fin.go ?_)
   refine Tr.w7 1 5 7 8 9 10 22 rfl rfl rfl rfl rfl rfl rfl ?_
   refine Tr.cond rfl (fun h => nomatch h) (fun _ => ?_)
   refine Tr.skip (Fin.block (Fin.go (Tr.reg0 ?_)))
   first
    | (refine Ch.oo rfl rfl rfl (ok_add rfl (vl rfl) (vl rfl) ?hin) ?_; case hin => unfold InI; omega)
    | refine Ch.oo rfl rfl rfl (ok_int rfl (vl rfl) (vl rfl) rfl) ?_
   refine Ch.mv rfl rfl rfl rfl rfl ?_
   refine Ch.nil ?_
   have hus := fm_take (useOf s) hx_k
   first
    | rw [use_yes (by assumption) (by omega)] at hus
    | rw [use_no (by first | (left; assumption) | (right; omega))] at hus
   have hup : usesF (l.take (k + 1)) s = _ := hus
   exact Fin.famV1 (k + 1) v (⟨hk_k, by omega⟩) ⟨⟨_, rfl, int_succ k⟩, ⟨_, rfl, own_le (by rw [hup, List.map_append]; first | rfl | exact (List.append_nil _).symm)⟩, ke rfl, ke rfl, ke rfl, trivial⟩ (fun _ _ h => h)
 ·
  have he_k : k = (l).length := by have := ge_of_dec h1; omega
  subst he_k
  refine Tr.exit ?_
  refine Fin.then_exit ?_
  refine Fin.then_exit ?_
  refine Fin.block_here ?_
  refine Fin.go (Tr.seq (Tr.reg0 ?_))
  refine Ch.mv rfl rfl rfl rfl rfl ?_
  refine Ch.as rfl rfl rfl rfl rfl ?_
  refine Ch.nil (Fin.go (Tr.ret ?_))
  refine Fin.ret1 rfl (OutW.bse _ _) rfl ?_
  · exact Pr.le_trans (andIs_le _ _) (Pr.le_of_eq (by rw [List.take_length]))
set_option maxRecDepth 20000 in
theorem w_W11 {x y : Fct}  : Fun Tryz.prog 74 [agg (rowFc y), ref (rowFc x)] (bool (alikeF x y)) := by
 refine Fun.of Tryz.func74 rfl rfl (by exact Nat.le_of_ble_eq_true rfl) fun M0 w0 => ?_
 refine Tr.seq (Tr.regT ?_)
 refine TO.boxm rfl rfl (by decide) rfl (VL.le (vl rfl) (agg_cellsP _)) (fun b1 => ?_)
 refine TO.as rfl rfl rfl rfl rfl ?_
 refine TO.nil (Fin.go (Tr.seq (Tr.regT ?_)))
 refine TO.oo rfl rfl rfl (ok_fieldAddr rfl fo40_6 (vl rfl) rfl) ?_
 refine TO.oo rfl rfl rfl (ok_load1 rfl one3 (vl rfl)) ?_
 refine TO.oo rfl rfl rfl (okp_fieldAddr rfl fo40_6 (vl rfl)) ?_
 refine TO.ef0 0 rfl rfl (ef_store rfl rfl (vl rfl) (VL.le (vl rfl) (one_cellsP _)) sz3 rfl (by exact Nat.le_of_ble_eq_true rfl) rfl) ?_
 refine TO.nil (Fin.go (Tr.seq (Tr.reg0 ?_)))
 refine Ch.oo rfl rfl rfl (ok_loadA rfl agg40 sz40 (vl rfl) rfl rfl) ?_
 refine Ch.oo rfl rfl rfl (ok_rd 0 rfl (rd_loadA rfl agg40 sz40 (vl rfl) rfl rfl)) ?_
 refine Ch.oo rfl rfl rfl (ok_eq40 rfl (vl rfl) (vl rfl)) ?_
 refine Ch.as rfl rfl rfl rfl rfl ?_
 refine Ch.nil (Fin.go ?_)
 refine Tr.drop 0 ?_
 refine Tr.ret ?_
 refine Fin.ret1 rfl (OutW.bse _ _) rfl ?_
 · refine bool_eq ?_; unfold alikeF; rw [decide_eq_decide]; exact ⟨fun ⟨a, b, c, d, e, f, g, _⟩ => ⟨a, b, c, d, e, f, g⟩, fun ⟨a, b, c, d, e, f, g⟩ => ⟨a, b, c, d, e, f, g, rfl⟩⟩
set_option maxRecDepth 20000 in
theorem w_IndexFuncF {l : List Fct} {p : Fct → Bool}  : Fun Tryz.prog 117 [fcts l, clo Tryz.prog (fun x : Fct => [agg (rowFc x)]) (fun x => bool (p x))] (int (idx p l)) := by
 refine Fun.of Tryz.func117 rfl rfl (by exact Nat.le_of_ble_eq_true rfl) fun M0 w0 => ?_
 refine Tr.lenm 0 rfl fun hlm_0 => ?_
 refine Tr.seq (Tr.reg0 ?_)
 refine Ch.as rfl rfl rfl rfl rfl ?_
 refine Ch.nil (Fin.go (Tr.seq (Tr.seq (Tr.reg0 ?_))))
 refine Ch.mv rfl rfl rfl rfl rfl ?_
 first
  | refine Ch.oo rfl rfl rfl (ok_lenm rfl Tryz.underlying29 (vl rfl)) ?_
  | refine Ch.oo rfl rfl rfl (ok_len rfl Tryz.underlying29 (vl rfl)) ?_
 refine Ch.mv rfl rfl rfl rfl rfl ?_
 refine Ch.nil (Fin.go (Tr.block ?_))
 refine Tr.loopw [(0, _), (1, _), (7, _)] ⟨ke rfl, ke rfl, ke rfl, trivial⟩ (fun k : Nat => [(8, int ((k : Nat) : Int))]) (fun k : Nat => k ≤ (l).length ∧ (∀ j y, j < k → l[j]? = some y → p y = false)) (fun k : Nat => (l).length - k) 0 (⟨Nat.zero_le _, fun j y hj => absurd hj (by omega)⟩) ⟨ke rfl, trivial⟩ ?_
 rintro k ⟨hle_k, hinv_k⟩
 refine Tr.seq (Tr.reg0 ?_)
 refine Ch.oo rfl rfl rfl (ok_int rfl (vl rfl) (vl rfl) rfl) ?_
 refine Ch.nil (Fin.go (Tr.seq ?_))
 refine Tr.cn rfl (fun h1 q1 => ?_) (fun h1 q1 => ?_)
 ·
  have hk_k : k < (l).length := lt_of_dec h1
  obtain ⟨x, hx_k⟩ := at_ hk_k
  refine Tr.skip (Fin.go (Tr.seq (Tr.block (Tr.seq (Tr.reg0 ?_)))))
  refine Ch.mv rfl rfl rfl rfl rfl ?_
  refine Ch.as rfl rfl rfl rfl rfl ?_
  refine Ch.nil (Fin.go (Tr.seq (Tr.reg0 ?_)))
  iterate 3 refine Ch.mv rfl rfl rfl rfl rfl ?_
  refine Ch.oo rfl rfl rfl (ok_indexAddr rfl Tryz.underlying29 sz40 (vl rfl) (vl rfl) (by omega) (by first | exact row_at (by assumption) | exact row_atI (by assumption) | assumption)) ?_
  refine Ch.oo rfl rfl rfl (ok_loadA rfl agg40 sz40 (vl rfl) rfl rfl) ?_
  refine Ch.oo rfl rfl rfl (ok_callc x rfl (vl rfl) ⟨ke rfl, trivial⟩) ?_
  refine Ch.nil (Fin.go ?_)
  refine Tr.cn rfl (fun h2 q2 => ?_) (fun h2 q2 => ?_)
  ·
   refine Tr.seq (Tr.reg0 ?_)
   refine Ch.mv rfl rfl rfl rfl rfl ?_
   refine Ch.as rfl rfl rfl rfl rfl ?_
   refine Ch.nil (Fin.go ?_)
   refine Tr.w1 4 rfl ?_
   refine Tr.ret ?_
   refine Fin.block_ret ?_
   refine Fin.then_ret ?_
   refine Fin.then_ret ?_
   refine Fin.block_ret ?_
   refine Fin.then_ret ?_
   refine Fin.ret1 rfl (OutW.bse _ _) rfl ?_
   · exact int_eq (idx_found hx_k (by assumption) hinv_k)
  ·
   refine Tr.skip (Fin.block (Fin.go (Tr.reg0 ?_)))
   first
    | (refine Ch.oo rfl rfl rfl (ok_add rfl (vl rfl) (vl rfl) ?hin) ?_; case hin => unfold InI; omega)
    | refine Ch.oo rfl rfl rfl (ok_int rfl (vl rfl) (vl rfl) rfl) ?_
   refine Ch.mv rfl rfl rfl rfl rfl ?_
   refine Ch.nil ?_
   exact Fin.fam_same (k + 1) ⟨⟨hk_k, step_no hx_k (by assumption) hinv_k⟩, by omega⟩ ⟨⟨_, rfl, int_succ k⟩, ke rfl, ke rfl, ke rfl, trivial⟩
 ·
  have he_k : k = (l).length := by have := ge_of_dec h1; omega
  subst he_k
  refine Tr.exit ?_
  refine Fin.then_exit ?_
  refine Fin.then_exit ?_
  refine Fin.block_here ?_
  refine Fin.go (Tr.seq (Tr.reg0 ?_))
  refine Ch.as rfl rfl rfl rfl rfl ?_
  refine Ch.nil (Fin.go (Tr.ret ?_))
  refine Fin.ret1 rfl (OutW.bse _ _) rfl ?_
  · exact int_eq (idx_none hinv_k)
set_option maxRecDepth 20000 in
theorem w_ContainsFuncF {l : List Fct} {p : Fct → Bool}  : Fun Tryz.prog 73 [fcts l, clo Tryz.prog (fun x : Fct => [agg (rowFc x)]) (fun x => bool (p x))] (bool (l.any p)) := by
 refine Fun.of Tryz.func73 rfl rfl (by exact Nat.le_of_ble_eq_true rfl) fun M0 w0 => ?_
 refine Tr.seq (Tr.reg0 ?_)
 refine Ch.as rfl rfl rfl rfl rfl ?_
 refine Ch.nil (Fin.go (Tr.seq (Tr.reg0 ?_)))
 refine Ch.mv rfl rfl rfl rfl rfl ?_
 refine Ch.mv rfl rfl rfl rfl rfl ?_
 refine Ch.oo rfl rfl rfl (ok_call rfl (w_IndexFuncF) ⟨ke rfl, ke rfl, trivial⟩) ?_
 refine Ch.oo rfl rfl rfl (ok_int rfl (vl rfl) (vl rfl) rfl) ?_
 refine Ch.as rfl rfl rfl rfl rfl ?_
 refine Ch.nil (Fin.go (Tr.ret ?_))
 refine Fin.ret1 rfl (OutW.bse _ _) rfl ?_
 · exact bool_eq (idx_any p l)
set_option maxRecDepth 20000 in
theorem w_W1 {x : Fct} {o : List Fct}  : Fun Tryz.prog 72 [agg (rowFc x), ref [fcts o]] (bool (o.any (alikeF x))) := by
 refine Fun.of Tryz.func72 rfl rfl (by exact Nat.le_of_ble_eq_true rfl) fun M0 w0 => ?_
 refine Tr.seq (Tr.reg0 ?_)
 refine Ch.oo rfl rfl rfl (ok_box rfl (VL.le (vl rfl) (agg_cellsP _))) ?_
 refine Ch.as rfl rfl rfl rfl rfl ?_
 refine Ch.nil (Fin.go (Tr.seq (Tr.reg0 ?_)))
 refine Ch.oo rfl rfl rfl (ok_load1 rfl one29 (vl rfl)) ?_
 refine Ch.oo rfl rfl rfl (ok_makeFunc rfl rfl) ?_
 refine Ch.oo rfl rfl rfl (ok_call rfl (w_ContainsFuncF (l := o) (p := alikeF x)) ⟨ke rfl, ⟨_, rfl, fn_le_clo (w_W11 (x := x) (y := x)).1 (fun y => w_W11 (x := x) (y := y))⟩, trivial⟩) ?_
 refine Ch.as rfl rfl rfl rfl rfl ?_
 refine Ch.nil (Fin.go (Tr.ret ?_))
 refine Fin.ret1 rfl (OutW.bse _ _) rfl ?_
 · first | exact Pr.le_refl _ | (refine int_eq ?_; simp_all; done) | (refine bool_eq ?_; simp_all; done) | (refine bool_eq ?_; simp_all; omega) | (refine int_eq ?_; omega)
theorem e_W1 : Entry Tryz.prog 72 := ⟨_, Tryz.func72, rfl, rfl⟩
end Go.Proofs.YthmnoekgicggnaaGreat
namespace Cp
open Go Go.RowKit Go.Great

section
variable {P : Program} {n : Nat} {E : Env} {M0 : Av} {w0 : World} {S : Nat → Prop} {rs : List Res} {o : Oper}

theorem run_append_void (w : World) (A : Option Addr) (t ty e : TypeId) (i : TypeInfo) (z : Value) (ht : P.underlying t = some (.slice e)) (hi : P.info? e = some i) (hz : i.zero = some z)
    (a : Addr) (n c : Nat) (news : List Value) (hl : news.length = n * i.size) (hnews : ∀ j v, news[j]? = some v → w.cell? (a.add j) = some v)
    (h0 : 0 < n) (h63 : (n : Int) ≤ 9223372036854775807) (h48 : n * i.bytes ≤ 281474976710656) :
    (Builtin.append_ #[t, t] ty #[.slice A 0 0, .slice (some a) n c]).run P w =
      .ok (.slice (some ⟨w.heap.size, 0, none⟩) n (grownCap w n 0 e)) (w.drew.alloc (.cells (news.toArray ++ Builtin.zeroCells z.cells (grownCap w n 0 e - n)) e)) := by
  cases A with
  | none => exact run_append_nil (w := w) t ty e i z ht hi hz a n c news hl hnews h0 h63 h48
  | some b =>
    have := run_append_grow (w := w) t ty e i z ht hi hz b 0 0 [] (by simp) (by simp) a n c news hl hnews (by omega) (by simpa using h63) (by rw [Nat.zero_add, nextslicecap_zero h0]; exact h48)
    simpa using this

/-- append onto a slice of nothing. -/
theorem app_void {M : Av} {w : World} {t ty e : TypeId} {sz bytes : Nat} {zs : List Value} {rows : List (List Pr)} {u : Value} {j : Nat} (A : Option Addr) (ht : P.underlying t = some (.slice e)) (hz : sizeB P e = some sz) (hby : bytesB P e = some bytes) (hze : zeroB P e = some zs) (hzl : zs.length = sz) (hone : zs.all (·.oneCell') = true) (hsz : 0 < sz)
    (h : HpH M0 w0 S rs M w) (hj : rs[j]? = some noRes) (hu : (slice sz rows).h M w u) (hpos : 0 < rows.length) (hmax : rows.length ≤ maxLen) (hfit : rows.length * bytes ≤ 140737488355328) :
    ∃ v' w' M', (Builtin.append_ #[t, t] ty #[.slice A 0 0, u]).run P w = .ok v' w' ∧ (lens rows.length).h M' w' v' ∧ Ext M w M' w' ∧ HpH M0 w0 S (rs.set j (mutRes e sz rows v')) M' w' := by
  unfold sizeB at hz
  unfold bytesB at hby
  unfold zeroB at hze
  cases hi : P.info? e with
  | none => rw [hi] at hz; cases hz
  | some i =>
    rw [hi] at hz hby hze
    simp only [Option.map_some, Option.some.injEq, Option.map_eq_some_iff] at hz hby hze
    obtain ⟨z, hzz, hze⟩ := hze
    have hzc : z.cells.size = sz := by rw [← hzl, ← hze]; simp
    obtain ⟨A', c', rfl, hmc, hcm', hA', hrows'⟩ := hu
    have hu0 : (slice sz rows).h M w (.slice A' rows.length c') := ⟨A', c', rfl, hmc, hcm', hA', hrows'⟩
    obtain ⟨ad', rfl⟩ : ∃ ad', A' = some ad' := by
      obtain ⟨_, b, hb, _⟩ := hrows' 0 _ (List.getElem?_eq_getElem hpos)
      exact ⟨b, hb⟩
    obtain ⟨news, hfl, hcell⟩ := slice_flat hsz hu0
    have hrun := run_append_void (P := P) w A t ty e i z ht hi hzz ad' rows.length c' news (by rw [hz]; exact hfl.1) (fun k u hk => (hcell k u hk).1) hpos (by unfold maxLen at hmax; omega) (by rw [hby]; omega)
    generalize hcap : grownCap w rows.length 0 e = cap at hrun
    have hge : rows.length ≤ cap := by rw [← hcap]; exact grownCap_ge _ _ _ _
    have hle : cap ≤ maxLen := by rw [← hcap]; exact grownCap_le_maxLen _ _ _ _ hmax
    generalize hzc' : Builtin.zeroCells z.cells (cap - rows.length) = zc at hrun
    have hzs : zc.size = (cap - rows.length) * sz := by rw [← hzc', size_zeroCells, hzc]
    have hzo : ∀ c ∈ zc.toList, c.oneCell' = true := by rw [← hzc']; exact zeroCells_one hze hone
    have hb : Below w.heap.size w (w.drew.alloc (.cells (news.toArray ++ zc) e)) := ((Below.refl _ _).drew).alloc (Nat.le_refl _) _
    have h2 := Ext.below (M := M) hb
    have hext : Ext M w (fun b o => M b o ∨ b = w.heap.size) (w.drew.alloc (.cells (news.toArray ++ zc) e)) := by
      refine ⟨h2.size, fun a v hc hm => ⟨fun hx => ?_, (h2.keep a v hc hm).2⟩, fun b o ho hp hm => ⟨fun hx => ?_, (h2.obj b o ho hp hm).2⟩⟩
      · rcases hx with hx | hx
        · exact hm hx
        · have := cell_lt hc; omega
      · rcases hx with hx | hx
        · exact hm hx
        · subst hx; simp at ho
    have hs1 : (w.drew.alloc (.cells (news.toArray ++ zc) e)).heap.size = w.heap.size + 1 := by simp
    refine ⟨_, _, fun b o => M b o ∨ b = w.heap.size, hrun, ⟨_, _, rfl⟩, hext, ?_⟩
    refine h.replace hj hext hb.os hb.tape hb.output (fun k hk _ => hb.block k hk) rfl (fun b o hm _ => .inl hm) (fun b o hx => ?_) ?_ rfl (fun b hbk => ?_)
    · rcases hx with hx | hx
      · have := h.bd _ _ hx; omega
      · omega
    · refine ⟨w.heap.size, cap, zc.toList, rfl, hge, hle, by simpa using hzs, fun o => .inr rfl, news ++ zc.toList, ?_, ?_, ?_⟩
      · have hh : (w.drew.alloc (.cells (news.toArray ++ zc) e)).heap[w.heap.size]? = some (.cells (news.toArray ++ zc) e (0, 0)) := heap_alloc_new w.drew _
        rw [hh]; simp
      · exact ((hfl.st hext).hl hsz).app (hl_is _ _ _)
      · intro c hc
        rcases List.mem_append.1 hc with hc | hc
        · exact hfl.2.1 c hc
        · exact hzo c hc
    · have hbk' : some w.heap.size = some b := hbk
      injection hbk' with e1
      subst e1
      exact ⟨by rw [hs1]; omega, .inr (Nat.le_refl _)⟩
theorem ef_appvoid {t e : TypeId} {x y : Operand} {sz' : Nat} {sz bytes d : Nat} {zs : List Value} {rows : List (List Pr)} {j : Nat} (hg : o.guard = none) (hd : o.dst = some d) (hn : d < n) (ho : o.op = .call { callee := .builtin .append, args := #[x, y], argTypes := #[t, t] })
    (ht : P.underlying t = some (.slice e)) (hz : sizeB P e = some sz) (hby : bytesB P e = some bytes) (hze : zeroB P e = some zs) (hzl : zs.length = sz) (hone : zs.all (·.oneCell') = true) (hsz : 0 < sz)
    (hx : VL E x (full sz' [])) (hy : VL E y (slice sz rows)) (hpos : 0 < rows.length) (hmax : rows.length ≤ maxLen) (hfit : rows.length * bytes ≤ 140737488355328) : OpEf P M0 w0 S n j (SR.c noRes) ⟨d, mutRes e sz rows⟩ o E (lens rows.length) := by
  refine ⟨hg, fun M w a rs hszn he hI hj => ?_⟩
  have h2 := hy.ev he (by simp [ho, Op.operands, Call.operands])
  obtain ⟨_, A, h1⟩ := hx.ev he (by simp [ho, Op.operands, Call.operands])
  simp only [List.length_nil] at h1
  obtain ⟨v', w', M', hrun, h3, h4, h5⟩ := app_void A (ty := o.type) ht hz hby hze hzl hone hsz hI hj h2 hpos hmax hfit
  have hrun2 : (execOp a.eval o).run P w = .ok (.value v') w' := by simp [execOp, ho, resolve, invoke, builtin, h1, hrun]
  rw [hrun2]
  refine ⟨M', h3, h4, ?_⟩
  have : (SR.at_ (a.put o.dst v') ⟨d, mutRes e sz rows⟩) = mutRes e sz rows v' := by unfold SR.at_; rw [hd, put_same (by rw [hszn]; exact hn)]
  rw [this]; exact h5


theorem okb_len {I : Asn} {t e : TypeId} {x : Operand} {A : Option Addr} {m cap : Nat} (ho : o.op = .call { callee := .builtin .len, args := #[x], argTypes := #[t] }) (ht : P.underlying t = some (.slice e)) (hx : VL E x (is (.slice A m cap))) : OpOK P I o E (int m) :=
  OpOK.same fun M w a he _ => by
    have h1 : a.eval x = _ := hx.ev he (by simp [ho, Op.operands, Call.operands])
    exact ⟨.int .i64 m, by simp [execOp, ho, resolve, invoke, builtin, Builtin.len_, h1, run_underlying ht, goInt], rfl⟩
theorem okb_sliceTo {I : Asn} {t e : TypeId} {x y : Operand} {k : IntKind} {h : Int} {sz b m cap : Nat} (ho : o.op = .slice t x none (some y) none) (ht : P.underlying t = some (.slice e)) (hz : sizeB P e = some sz) (hx : VL E x (is (.slice (some ⟨b, 0, none⟩) m cap))) (hy : VL E y (is (.int k h))) (h0 : 0 ≤ h) (hl : h ≤ m) (hc : m ≤ cap) (h1m : 0 < cap) :
    OpOK P I o E (is (.slice (some ⟨b, 0, none⟩) h.toNat cap)) :=
  OpOK.same fun M w a he _ => by
    have h1 : a.eval x = _ := hx.ev he (by simp [ho, Op.operands])
    have h3 : a.eval y = _ := hy.ev he (by simp [ho, Op.operands])
    have hb : h ≤ (cap : Int) := by omega
    refine ⟨_, ?_, rfl⟩
    simp [execOp, ho, h1, h3, Instr.sliceAt, Instr.slice, run_underlying ht, Instr.sliceBounds, Instr.sliceBound, asIntOf, h0, hb, run_size hz]
    intro _; rfl
theorem okb_sliceFrom {I : Asn} {t e : TypeId} {x y : Operand} {k : IntKind} {l : Int} {sz b m cap : Nat} (ho : o.op = .slice t x (some y) none none) (ht : P.underlying t = some (.slice e)) (hz : sizeB P e = some sz) (hx : VL E x (is (.slice (some ⟨b, 0, none⟩) m cap))) (hy : VL E y (is (.int k l))) (h0 : 0 ≤ l) (hl : l < m) (hc : m ≤ cap) :
    OpOK P I o E (is (.slice (some ⟨b, l.toNat * sz, none⟩) (m - l.toNat) (cap - l.toNat))) :=
  OpOK.same fun M w a he _ => by
    have h1 : a.eval x = _ := hx.ev he (by simp [ho, Op.operands])
    have h3 : a.eval y = _ := hy.ev he (by simp [ho, Op.operands])
    have hb : l ≤ (m : Int) := by omega
    have hne : ¬ cap = l.toNat := by omega
    refine ⟨_, ?_, rfl⟩
    simp [execOp, ho, h1, h3, Instr.sliceAt, Instr.slice, run_underlying ht, Instr.sliceBounds, Instr.sliceBound, asIntOf, h0, hb, run_size hz, hne, addr_add]
theorem zero_hl {M : Av} {w : World} {zs : List Value} {z : Array Value} {k : Nat} (hz : z.toList = zs) (h0 : 0 < zs.length) : HL M w (List.replicate k (zs.map is)).flatten (Builtin.zeroCells z k).toList := by
  have hlr : ∀ r ∈ List.replicate k (zs.map is), r.length = zs.length := fun r hr => by rw [List.eq_of_mem_replicate hr, List.length_map]
  have hfl := flat_len hlr
  rw [List.length_replicate] at hfl
  have hzs : z.size = zs.length := by rw [← hz]; simp
  refine hl_of (by rw [Array.length_toList, size_zeroCells, hfl, hzs]) fun i p hi => ?_
  have hil : i < k * zs.length := by rw [← hfl]; rcases Nat.lt_or_ge i (List.replicate k (zs.map is)).flatten.length with h | h; exact h; rw [List.getElem?_eq_none h] at hi; cases hi
  have hq : i / zs.length < k := Nat.div_lt_of_lt_mul (by rw [Nat.mul_comm]; exact hil)
  have hm : i % zs.length < zs.length := Nat.mod_lt _ h0
  have he : i / zs.length * zs.length + i % zs.length = i := by rw [Nat.mul_comm]; exact Nat.div_add_mod i _
  rw [← he, flat_at hlr (by rw [List.getElem?_replicate, if_pos hq]) hm, List.getElem?_map, List.getElem?_eq_getElem hm] at hi
  simp only [Option.map_some, Option.some.injEq] at hi
  subst hi
  refine ⟨zs[i % zs.length], ?_, rfl⟩
  have hzl : i < k * z.size := by rw [hzs]; exact hil
  simp only [Builtin.zeroCells, Array.toList_map, Array.toList_range, List.getElem?_map]
  rw [List.getElem?_range hzl]
  subst hz
  simp only [Option.map_some, Option.some.injEq]
  have hm' : i % z.size < z.size := by rw [hzs]; exact hm
  rw [getElem!_pos z _ hm', ← Array.getElem_toList]
  congr 1
theorem ef_clear {t e : TypeId} {x : Operand} {j : Nat} {new : Bool} {b off m cap sz : Nat} {zs : List Value} {T : TypeId} {ps ps' : List Pr} (hg : o.guard = none) (ho : o.op = .call { callee := .builtin .clear, args := #[x], argTypes := #[t] })
    (ht : P.underlying t = some (.slice e)) (hz : sizeB P e = some sz) (hze : zeroB P e = some zs) (hzl : zs.length = sz) (hone : zs.all (·.oneCell') = true) (hsz : 0 < sz) (hx : VL E x (is (.slice (some ⟨b, off, none⟩) m cap))) (hm : 0 < m)
    (hl : off + m * sz ≤ ps.length) (hps : ps.take off ++ (List.replicate m (zs.map is)).flatten ++ ps.drop (off + m * sz) = ps') : OpEf P M0 w0 S n j (SR.c (cellsRes new b T ps)) (SR.c (cellsRes new b T ps')) o E any := by
  refine ⟨hg, fun M w a rs hszn he hI hj => ?_⟩
  have h1 : a.eval x = _ := hx.ev he (by simp [ho, Op.operands, Call.operands])
  unfold zeroB at hze
  cases hi : P.info? e with
  | none => rw [hi] at hze; cases hze
  | some i =>
    rw [hi] at hze
    simp only [Option.map_eq_some_iff] at hze
    obtain ⟨z, hzz, hze⟩ := hze
    have hzc : z.cells.size = sz := by rw [← hzl, ← hze]; simp
    obtain ⟨⟨_, cs, h4, h5, h6⟩, _⟩ := hI.hold _ (List.mem_of_getElem? hj)
    have h5l := h5.length
    have hzs : (Builtin.zeroCells z.cells m).size = m * sz := by rw [size_zeroCells, hzc]
    have h3 : ∀ c ∈ (Builtin.zeroCells z.cells m).toList, c.oneCell' = true := zeroCells_one hze hone
    have hrun : (storeCells ⟨b, off, none⟩ (Builtin.zeroCells z.cells m).toList 0).run P w = .ok () (w.setRow b (cs.take off ++ (Builtin.zeroCells z.cells m).toList ++ cs.drop (off + m * sz)).toArray) := by
      have := run_storeCells_at (P := P) b off T (Builtin.zeroCells z.cells m).toList 0 cs.toArray w h4 (by simp [hzs]; omega) h3
      simpa [hzs] using this
    obtain ⟨m', rfl⟩ : ∃ m', m = m' + 1 := ⟨m - 1, by omega⟩
    have hrun2 : (execOp a.eval o).run P w = .ok (.value (.tuple #[])) (w.setRow b (cs.take off ++ (Builtin.zeroCells z.cells (m' + 1)).toList ++ cs.drop (off + (m' + 1) * sz)).toArray) := by
      simp [execOp, ho, h1, resolve, invoke, builtin, Builtin.clear_, run_underlying ht, zeroValue, typeInfo, hi, hzz, hrun]
    rw [hrun2]
    obtain ⟨h7, h8⟩ := HpH.write (qs := ps') (cs := cs.take off ++ (Builtin.zeroCells z.cells (m' + 1)).toList ++ cs.drop (off + (m' + 1) * sz)) hI hj (by rw [← hps]; exact (((h5.take off).app (zero_hl hze (by omega)))).app (h5.drop (off + (m' + 1) * sz)))
      (fun c hc => by
        simp only [List.mem_append] at hc
        rcases hc with (hc | hc) | hc
        · exact h6 c (List.mem_of_mem_take hc)
        · exact h3 c hc
        · exact h6 c (List.mem_of_mem_drop hc))
    exact ⟨M, trivial, h8, h7⟩

theorem cells_at {β : Type} {f : β → List Pr} {l : List β} {qs : List Pr} {sz : Nat} (hf : ∀ x, (f x).length = sz) {i : Nat} {x : β} (h : l[i]? = some x) : ((((l.map f).flatten ++ qs).drop (i * sz)).take sz) = f x := by
  have hl : ∀ r ∈ l.map f, r.length = sz := fun r hr => by obtain ⟨y, _, rfl⟩ := List.mem_map.1 hr; exact hf y
  have hi : i < l.length := by rcases Nat.lt_or_ge i l.length with h' | h'; exact h'; rw [List.getElem?_eq_none h'] at h; cases h
  have hfl := flat_len hl
  rw [List.length_map] at hfl
  have hle : (i + 1) * sz ≤ l.length * sz := Nat.mul_le_mul_right sz hi
  rw [Nat.add_mul, Nat.one_mul] at hle
  apply List.ext_getElem?
  intro k
  rw [List.getElem?_take]
  split
  · rename_i hk
    rw [List.getElem?_drop, List.getElem?_append_left (by rw [hfl]; omega), flat_at hl (by rw [List.getElem?_map, h]; rfl) hk]
  · rename_i hk
    rw [List.getElem?_eq_none (by rw [hf]; omega)]
theorem cells_set {β : Type} {f : β → List Pr} {sz : Nat} (hf : ∀ x, (f x).length = sz) : ∀ {l : List β} {qs : List Pr} {i : Nat} {x : β}, i < l.length → ((l.map f).flatten ++ qs).take (i * sz) ++ f x ++ ((l.map f).flatten ++ qs).drop (i * sz + sz) = ((l.set i x).map f).flatten ++ qs
  | [], _, _, _, h => by simp at h
  | a :: l, qs, 0, x, _ => by
    simp only [List.map_cons, List.flatten_cons, Nat.zero_mul, List.take_zero, List.nil_append, Nat.zero_add, List.set_cons_zero]
    rw [← hf a, List.append_assoc, List.drop_left, List.append_assoc]
  | a :: l, qs, i + 1, x, h => by
    have ih := cells_set hf (l := l) (qs := qs) (i := i) (x := x) (by simpa using h)
    simp only [List.map_cons, List.flatten_cons, List.set_cons_succ]
    have e1 : (i + 1) * sz = (f a).length + i * sz := by rw [hf a, Nat.add_mul]; omega
    rw [List.append_assoc, List.append_assoc, e1, List.take_append, List.take_of_length_le (by omega), show (f a).length + i * sz - (f a).length = i * sz by omega, show (f a).length + i * sz + sz = (f a).length + (i * sz + sz) by omega, List.drop_append, List.drop_of_length_le (by omega), show (f a).length + (i * sz + sz) - (f a).length = i * sz + sz by omega, List.nil_append, List.append_assoc (f a) _ qs, ← ih]
    simp only [List.append_assoc]
theorem cells_clear {β : Type} {f : β → List Pr} {sz : Nat} (hf : ∀ x, (f x).length = sz) {z : β} {l : List β} {qs : List Pr} {i : Nat} (h : i ≤ l.length) :
    ((l.map f).flatten ++ qs).take (i * sz) ++ (List.replicate (l.length - i) (f z)).flatten ++ ((l.map f).flatten ++ qs).drop (i * sz + (l.length - i) * sz) = ((l.take i ++ List.replicate (l.length - i) z).map f).flatten ++ qs := by
  have hl : ∀ r ∈ l.map f, r.length = sz := fun r hr => by obtain ⟨y, _, rfl⟩ := List.mem_map.1 hr; exact hf y
  have hl2 : ∀ r ∈ (l.take i).map f, r.length = sz := fun r hr => by obtain ⟨y, _, rfl⟩ := List.mem_map.1 hr; exact hf y
  have e1 : i * sz + (l.length - i) * sz = ((l.map f).flatten).length := by rw [flat_len hl, List.length_map, ← Nat.add_mul]; congr 1; omega
  have e2 : (l.map f).flatten = ((l.take i).map f).flatten ++ ((l.drop i).map f).flatten := by rw [← List.flatten_append, ← List.map_append, List.take_append_drop]
  have e3 : (((l.take i).map f).flatten).length = i * sz := by rw [flat_len hl2, List.length_map, List.length_take]; congr 1; omega
  rw [e1, List.drop_left, List.map_append, List.flatten_append, List.map_replicate]
  congr 2
  rw [e2, List.append_assoc, ← e3, List.take_left]

theorem TO.openM {ops : Array Oper} {r : List Oper} {Q : Exit → Act → World → Prop} {e : TypeId} {sz : Nat} {rows : List (List Pr)} {v : Value} (j : Nat) (hj : rs[j]? = some (mutRes e sz rows v))
    (k : ∀ (b cap : Nat) (spare : List Value), v = .slice (some ⟨b, 0, none⟩) rows.length cap → rows.length ≤ cap → cap ≤ maxLen → spare.length = (cap - rows.length) * sz → TO P n ops r E (Hp M0 w0 S (rs.set j (cellsRes true b e (rows.flatten ++ spare.map is)))) Q) : TO P n ops r E (Hp M0 w0 S rs) Q :=
  fun m hl a w hs => let ⟨b, cap, spare, h1, h2, h3, h4, h5⟩ := hs.openM j hj; k b cap spare h1 h2 h3 h4 m hl a w h5
theorem cells_len {β : Type} {f : β → List Pr} {l : List β} {qs : List Pr} {sz : Nat} (hf : ∀ x, (f x).length = sz) : ((l.map f).flatten ++ qs).length = l.length * sz + qs.length := by
  rw [List.length_append, flat_len (sz := sz) (fun r hr => by obtain ⟨y, _, rfl⟩ := List.mem_map.1 hr; exact hf y), List.length_map]
theorem map_rows {β : Type} {f : β → List Pr} {l : List β} {sz : Nat} (hf : ∀ x, (f x).length = sz) : ∀ r ∈ l.map f, r.length = sz := fun r hr => by obtain ⟨y, _, rfl⟩ := List.mem_map.1 hr; exact hf y
theorem cells_atN {β : Type} {f : β → List Pr} {l : List β} {qs : List Pr} {sz : Nat} (hf : ∀ x, (f x).length = sz) {i : Nat} {x : β} (h : l[i]? = some x) : ((((l.map f).flatten ++ qs).drop (0 + ((i : Nat) : Int).toNat * sz)).take sz) = f x := by
  rw [Nat.zero_add, Int.toNat_natCast]; exact cells_at hf h
theorem cells_setN {β : Type} {f : β → List Pr} {sz : Nat} (hf : ∀ x, (f x).length = sz) {l : List β} {qs : List Pr} {i : Nat} {x : β} (h : i < l.length) : ((l.map f).flatten ++ qs).take (0 + ((i : Nat) : Int).toNat * sz) ++ f x ++ ((l.map f).flatten ++ qs).drop (0 + ((i : Nat) : Int).toNat * sz + sz) = ((l.set i x).map f).flatten ++ qs := by
  rw [Nat.zero_add, Int.toNat_natCast]; exact cells_set hf h
theorem cells_clearN {β : Type} {f : β → List Pr} {sz : Nat} (hf : ∀ x, (f x).length = sz) {z : β} {l : List β} {qs : List Pr} {i m : Nat} (hm : m = l.length - ((i : Nat) : Int).toNat) (h : i ≤ l.length) :
    ((l.map f).flatten ++ qs).take (((i : Nat) : Int).toNat * sz) ++ (List.replicate m (f z)).flatten ++ ((l.map f).flatten ++ qs).drop (((i : Nat) : Int).toNat * sz + m * sz) = ((l.take i ++ List.replicate (l.length - i) z).map f).flatten ++ qs := by
  rw [Int.toNat_natCast] at hm; subst hm; rw [Int.toNat_natCast]; exact cells_clear hf h

def DelI {β : Type} (p : β → Bool) (l st : List β) (i j : Nat) : Prop := st.length = l.length ∧ i < j ∧ j ≤ l.length ∧ st.take i = (l.take j).filter (fun x => !p x) ∧ st.drop j = l.drop j
theorem del_keep {β : Type} {p : β → Bool} {l st : List β} {i j : Nat} {x : β} (h : DelI p l st i j) (hx : l[j]? = some x) (hp : p x = false) : DelI p l (st.set i x) (i + 1) (j + 1) := by
  obtain ⟨h1, h2, h3, h4, h5⟩ := h
  have hj : j < l.length := by rcases Nat.lt_or_ge j l.length with h' | h'; exact h'; rw [List.getElem?_eq_none h'] at hx; cases hx
  refine ⟨by rw [List.length_set, h1], by omega, hj, ?_, ?_⟩
  · rw [List.take_add_one, List.getElem?_set_self (by omega), List.take_set_of_le (Nat.le_refl _), h4, List.take_add_one, hx, List.filter_append]
    simp [hp]
  · rw [List.drop_set_of_lt (by omega), ← List.drop_drop, ← List.drop_drop, h5]
theorem del_drop {β : Type} {p : β → Bool} {l st : List β} {i j : Nat} {x : β} (h : DelI p l st i j) (hx : l[j]? = some x) (hp : p x = true) : DelI p l st i (j + 1) := by
  obtain ⟨h1, h2, h3, h4, h5⟩ := h
  have hj : j < l.length := by rcases Nat.lt_or_ge j l.length with h' | h'; exact h'; rw [List.getElem?_eq_none h'] at hx; cases hx
  refine ⟨h1, by omega, hj, ?_, ?_⟩
  · rw [h4, List.take_add_one, hx, List.filter_append]; simp [hp]
  · rw [← List.drop_drop, ← List.drop_drop, h5]
theorem del_at {β : Type} {p : β → Bool} {l st : List β} {i j : Nat} (h : DelI p l st i j) : st[j]? = l[j]? := by
  have := congrArg (fun q => q[0]?) h.2.2.2.2
  simpa using this
theorem del_end {β : Type} {p : β → Bool} {l st : List β} {i : Nat} (h : DelI p l st i l.length) : st.take i = l.filter (fun x => !p x) ∧ i = (l.filter (fun x => !p x)).length ∧ st.length = l.length ∧ i < l.length := by
  obtain ⟨h1, h2, h3, h4, h5⟩ := h
  rw [List.take_length] at h4
  exact ⟨h4, by rw [← h4, List.length_take]; omega, h1, h2⟩

theorem St.frzS {b cap sz : Nat} {e : TypeId} {rows : List (List Pr)} {qs : List Pr} (j d : Nat) {p : Pr} (hj : rs[j]? = some (cellsRes true b e (rows.flatten ++ qs))) (hd : E.lookup d = some p) (hp : Pr.le p (is (.slice (some ⟨b, 0, none⟩) rows.length cap)))
    (hl : ∀ r ∈ rows, r.length = sz) (hc : rows.length ≤ cap) (hm : cap ≤ maxLen) (hq : qs.length = (cap - rows.length) * sz)
    {a : Act} {w : World} (h : St n E (Hp M0 w0 S rs) a w) : St n ((d, andIs (.slice (some ⟨b, 0, none⟩) rows.length cap) (slice sz rows)) :: E) (Hp M0 w0 S (rs.set j (appRes e sz (.slice (some ⟨b, 0, none⟩) rows.length cap)))) a w := by
  obtain ⟨M, h1, h2, h3, h4⟩ := h
  obtain ⟨M', h5, h6, h7⟩ := HpH.frz h4 hj hl hc hm hq
  refine ⟨M', h1, h2, fun s q hs => ?_, h6⟩
  simp only [List.lookup] at hs
  split at hs
  · rename_i e1
    have : s = d := by simpa using e1
    subst this
    simp only [Option.some.injEq] at hs
    subst hs
    have h8 := hp _ _ _ (h3 _ _ hd)
    exact ⟨h8, by rw [show a.tmps.getD s undef = _ from h8]; exact h7⟩
  · exact q.st _ _ _ _ _ h5 (h3 s q hs)
theorem Tr.frzS {Q : Exit → Act → World → Prop} {c : Code} {b cap sz : Nat} {e : TypeId} (rows : List (List Pr)) {qs : List Pr} (j d : Nat) {p : Pr} (hj : rs[j]? = some (cellsRes true b e (rows.flatten ++ qs))) (hd : E.lookup d = some p) (hp : Pr.le p (is (.slice (some ⟨b, 0, none⟩) rows.length cap)))
    (hl : ∀ r ∈ rows, r.length = sz) (hc : rows.length ≤ cap) (hm : cap ≤ maxLen) (hq : qs.length = (cap - rows.length) * sz)
    (k : Tr P n ((d, andIs (.slice (some ⟨b, 0, none⟩) rows.length cap) (slice sz rows)) :: E) (Hp M0 w0 S (rs.set j (appRes e sz (.slice (some ⟨b, 0, none⟩) rows.length cap)))) c Q) : Tr P n E (Hp M0 w0 S rs) c Q :=
  Tr.conv (fun _ _ hs => hs.frzS j d hj hd hp hl hc hm hq) k
theorem Fin.frzS {Q : Exit → Act → World → Prop} {x : Exit} {b cap sz : Nat} {e : TypeId} (rows : List (List Pr)) {qs : List Pr} (j d : Nat) {p : Pr} (hj : rs[j]? = some (cellsRes true b e (rows.flatten ++ qs))) (hd : E.lookup d = some p) (hp : Pr.le p (is (.slice (some ⟨b, 0, none⟩) rows.length cap)))
    (hl : ∀ r ∈ rows, r.length = sz) (hc : rows.length ≤ cap) (hm : cap ≤ maxLen) (hq : qs.length = (cap - rows.length) * sz)
    (k : Fin n ((d, andIs (.slice (some ⟨b, 0, none⟩) rows.length cap) (slice sz rows)) :: E) (Hp M0 w0 S (rs.set j (appRes e sz (.slice (some ⟨b, 0, none⟩) rows.length cap)))) Q x) : Fin n E (Hp M0 w0 S rs) Q x :=
  Fin.conv (fun _ _ hs => hs.frzS j d hj hd hp hl hc hm hq) k
end
end Cp
namespace Go.Proofs.YthmnoekgicggnaaGreat
open Go Go.RowKit Cp

theorem idx_at {β : Type} {p : β → Bool} {l : List β} (h : ¬ idx p l = -1) : 0 ≤ idx p l ∧ (idx p l).toNat < l.length ∧ DelI p l l (idx p l).toNat ((idx p l).toNat + 1) := by
  unfold idx at h ⊢
  cases hf : l.findIdx? p with
  | none => rw [hf] at h; exact absurd rfl h
  | some i =>
    rw [List.findIdx?_eq_some_iff_getElem] at hf
    obtain ⟨h1, h2, h3⟩ := hf
    refine ⟨by simp, by simpa using h1, rfl, by simp, by simp only [Int.toNat_natCast]; omega, ?_, rfl⟩
    simp only [Int.toNat_natCast]
    rw [List.take_add_one, List.getElem?_eq_getElem h1, List.filter_append]
    have : (l.take i).filter (fun x => !p x) = l.take i := by
      rw [List.filter_eq_self]; intro x hx
      obtain ⟨j, hj, rfl⟩ := List.mem_iff_getElem.1 hx
      rw [List.length_take] at hj
      have := h3 j (by omega)
      simpa using this
    rw [this]; simp [h2]
theorem idx_no {β : Type} {p : β → Bool} {l : List β} (h : idx p l = -1) : l.filter (fun x => !p x) = l := by
  unfold idx at h
  cases hf : l.findIdx? p with
  | none => rw [List.findIdx?_eq_none_iff] at hf; rw [List.filter_eq_self]; intro x hx; simpa using hf x hx
  | some i => rw [hf] at h; exact absurd h (by simp)
theorem len_pos {α : Type} {l : List α} (h : l ≠ []) : 0 < l.length := List.length_pos_iff.2 h
theorem spare_len {cap n m : Nat} (h1 : n ≤ cap) (h2 : m ≤ n) : (n - m) * 8 + (cap - n) * 8 = (cap - m) * 8 := by omega
abbrev zeroFct : Fct := ⟨0, [], 0, 0, 0, 0, [], 0⟩

set_option maxRecDepth 20000 in
theorem w_Clone0   : Fun Tryz.prog 71 [fcts []] (fcts []) := by
 refine Fun.of Tryz.func71 rfl rfl (by exact Nat.le_of_ble_eq_true rfl) fun M0 w0 => ?_
 refine Tr.seq (Tr.reg0 ?_)
 refine Ch.as rfl rfl rfl rfl rfl ?_
 refine Ch.nil (Fin.go (Tr.seq (Tr.seq (Tr.reg0 ?_))))
 refine Ch.mv rfl rfl rfl rfl rfl ?_
 refine Ch.oo rfl rfl rfl (ok_eqnil rfl Tryz.underlying29 (vl rfl)) ?_
 refine Ch.nil (Fin.go ?_)
 refine Tr.ex 4 rfl (fun z1 => Tr.fact 4 rfl fun hz1 => ?_)
 refine Tr.cn rfl (fun h1 q1 => ?_) (fun h1 q1 => ?_)
 ·
  refine Tr.seq (Tr.reg0 ?_)
  refine Ch.as rfl rfl rfl rfl rfl ?_
  refine Ch.nil (Fin.go (Tr.ret ?_))
  refine Fin.then_ret ?_
  refine Fin.ret1 rfl (OutW.bse _ _) rfl ?_
  · exact nil_slice 8
 ·
  refine Tr.skip (Fin.go (Tr.seq (Tr.regT ?_)))
  refine TO.oo rfl rfl rfl (ok_buildSlice (xs := []) (rows := []) rfl rfl Tryz.underlying29 sz40 z40 rfl (by decide) trivial (by decide)) ?_
  refine TO.mv rfl rfl rfl rfl rfl ?_
  refine TO.pad ?_
  refine TO.efs 0 rfl rfl (by decide) (ef_append rfl rfl (by decide) rfl Tryz.underlying29 sz40 by40 z40 rfl (by decide) ⟨_, rfl, full_le _ _⟩ (vl rfl) (by simp only [List.length_map, List.length_append, List.length_cons, List.length_nil]; unfold maxLen; omega) (by simp only [List.length_map, List.length_append, List.length_cons, List.length_nil]; omega) (appR_full (by exact List.Mem.head _) (vl rfl))) (fun v1 => ?_)
  refine TO.as rfl rfl rfl rfl rfl ?_
  refine TO.nil (Fin.go (Tr.ret ?_))
  refine Fin.ret1 rfl (OutW.bse _ _) rfl ?_
  · exact andIs_le _ _
set_option maxRecDepth 20000 in
theorem w_Delete0 {p : Fct → Bool}  : Fun Tryz.prog 70 [fcts [], clo Tryz.prog (fun x : Fct => [agg (rowFc x)]) (fun x => bool (p x))] (fcts []) := by
 refine Fun.of Tryz.func70 rfl rfl (by exact Nat.le_of_ble_eq_true rfl) fun M0 w0 => ?_
 refine Tr.seq (Tr.reg0 ?_)
 refine Ch.as rfl rfl rfl rfl rfl ?_
 refine Ch.nil (Fin.go (Tr.seq (Tr.reg0 ?_)))
 refine Ch.mv rfl rfl rfl rfl rfl ?_
 refine Ch.mv rfl rfl rfl rfl rfl ?_
 refine Ch.oo rfl rfl rfl (ok_call rfl (w_IndexFuncF (l := []) (p := p)) ⟨ke rfl, ke rfl, trivial⟩) ?_
 refine Ch.as rfl rfl rfl rfl rfl ?_
 refine Ch.nil (Fin.go (Tr.seq (Tr.seq (Tr.reg0 ?_))))
 refine Ch.mv rfl rfl rfl rfl rfl ?_
 refine Ch.oo rfl rfl rfl (ok_int rfl (vl rfl) (vl rfl) rfl) ?_
 refine Ch.nil (Fin.go ?_)
 refine Tr.cn rfl (fun h1 q1 => ?_) (fun h1 q1 => ?_)
 ·
  refine Tr.seq (Tr.reg0 ?_)
  refine Ch.mv rfl rfl rfl rfl rfl ?_
  refine Ch.as rfl rfl rfl rfl rfl ?_
  refine Ch.nil (Fin.go (Tr.ret ?_))
  refine Fin.then_ret ?_
  refine Fin.ret1 rfl (OutW.bse _ _) rfl ?_
  · first | exact Pr.le_refl _ | (refine int_eq ?_; simp_all; done) | (refine bool_eq ?_; simp_all; done) | (refine bool_eq ?_; simp_all; omega) | (refine int_eq ?_; omega)
 ·
  exfalso; simp [idx] at h1
set_option maxRecDepth 20000 in
theorem w_CloneM {l : List Fct} (h0 : l ≠ []) (hl : l.length ≤ 100000) : FunM Tryz.prog 71 [fcts l] (lens (l.map rowFc).length) (noRes) (fun v => mutRes 40 8 (l.map rowFc) v) := by
 refine FunM.of Tryz.func71 rfl rfl (by exact Nat.le_of_ble_eq_true rfl) fun M0 w0 S rs M1 w1 => ?_
 have hpos := len_pos h0
 refine Tr.seq (Tr.reg0 ?_)
 refine Ch.as rfl rfl rfl rfl rfl ?_
 refine Ch.nil (Fin.go (Tr.seq (Tr.seq (Tr.reg0 ?_))))
 refine Ch.mv rfl rfl rfl rfl rfl ?_
 refine Ch.oo rfl rfl rfl (ok_eqnil rfl Tryz.underlying29 (vl rfl)) ?_
 refine Ch.nil (Fin.go ?_)
 refine Tr.ex 4 rfl (fun z1 => Tr.fact 4 rfl fun hz1 => ?_)
 refine Tr.cn rfl (fun h1 q1 => ?_) (fun h1 q1 => ?_)
 ·
  exfalso; have := hz1 h1; simp_all
 ·
  refine Tr.skip (Fin.go (Tr.seq (Tr.regT ?_)))
  refine TO.oo rfl rfl rfl (ok_buildSlice (xs := []) (rows := []) rfl rfl Tryz.underlying29 sz40 z40 rfl (by decide) trivial (by decide)) ?_
  refine TO.mv rfl rfl rfl rfl rfl ?_
  refine TO.pad ?_
  refine TO.efs 0 rfl rfl (by decide) (ef_appvoid rfl rfl (by decide) rfl Tryz.underlying29 sz40 by40 z40 rfl (by decide) (by decide) (vl rfl) (vl rfl) (by rw [List.length_map]; exact hpos) (by rw [List.length_map]; unfold maxLen; omega) (by rw [List.length_map]; omega)) (fun v1 => ?_)
  refine TO.as rfl rfl rfl rfl rfl ?_
  refine TO.nil (Fin.go (Tr.ret ?_))
  refine Fin.drop 1 ?_
  refine Fin.retM1 rfl rfl ?_ (by intro _ _ _ h; rw [h.1])
  · exact andIs_le _ _
set_option maxRecDepth 20000 in
theorem w_DeleteF {l : List Fct} {p : Fct → Bool} {b cap : Nat} {sp : List Value} (hc : (l.map rowFc).length ≤ cap) (hm : cap ≤ maxLen) (hq : sp.length = (cap - (l.map rowFc).length) * 8) : FunM Tryz.prog 70 [is (.slice (some ⟨b, 0, none⟩) (l.map rowFc).length cap), clo Tryz.prog (fun x : Fct => [agg (rowFc x)]) (fun x => bool (p x))] (is (.slice (some ⟨b, 0, none⟩) ((l.filter fun x => !p x).map rowFc).length cap)) (cellsRes true b 40 ((l.map rowFc).flatten ++ sp.map is)) (fun _ => cellsRes true b 40 (((l.filter fun x => !p x).map rowFc).flatten ++ (((List.replicate (l.length - (l.filter fun x => !p x).length) zeroFct).map rowFc).flatten ++ sp.map is))) := by
 refine FunM.of Tryz.func70 rfl rfl (by exact Nat.le_of_ble_eq_true rfl) fun M0 w0 S rs M1 w1 => ?_
 have hlm : (l.map rowFc).length = l.length := List.length_map ..
 have hmx : cap ≤ 9223372036854775807 := by unfold maxLen at hm; omega
 refine Tr.seq (Tr.reg0 ?_)
 refine Ch.as rfl rfl rfl rfl rfl ?_
 refine Ch.nil (Fin.go (Tr.seq (Tr.regT ?_)))
 refine TO.mv rfl rfl rfl rfl rfl ?_
 refine TO.mv rfl rfl rfl rfl rfl ?_
 refine TO.efc 0 rfl rfl (by decide) (ef_pure (l.map rowFc) rfl rfl (by decide) rfl (w_IndexFuncF (l := l) (p := p)) (map_rows fun _ => rfl) hc hm (by rw [List.length_map]; exact hq) ⟨.inr ⟨(vl rfl), andIs_le _ _⟩, .inl (ke rfl), trivial⟩) ?_
 refine TO.as rfl rfl rfl rfl rfl ?_
 refine TO.nil (Fin.go (Tr.seq (Tr.seq (Tr.reg0 ?_))))
 refine Ch.mv rfl rfl rfl rfl rfl ?_
 refine Ch.oo rfl rfl rfl (ok_int rfl (vl rfl) (vl rfl) rfl) ?_
 refine Ch.nil (Fin.go ?_)
 refine Tr.cn rfl (fun h1 q1 => ?_) (fun h1 q1 => ?_)
 ·
  have hno := idx_no (p := p) (l := l) (by simpa using h1)
  refine Tr.seq (Tr.reg0 ?_)
  refine Ch.mv rfl rfl rfl rfl rfl ?_
  refine Ch.as rfl rfl rfl rfl rfl ?_
  refine Ch.nil (Fin.go (Tr.ret ?_))
  refine Fin.then_ret ?_
  refine Fin.retM1 rfl rfl ?_ (fun _ _ _ _ => by rw [hno, Nat.sub_self]; rfl)
  · rw [hno]; exact Pr.le_refl _
 ·
  obtain ⟨hi0, hil, hdi⟩ := idx_at (p := p) (l := l) (by simpa using h1)
  refine Tr.skip (Fin.go (Tr.seq (Tr.seq (Tr.reg0 ?_))))
  refine Ch.mv rfl rfl rfl rfl rfl ?_
  first
   | (refine Ch.oo rfl rfl rfl (ok_add rfl (vl rfl) (vl rfl) ?hin) ?_; case hin => unfold InI; omega)
   | refine Ch.oo rfl rfl rfl (ok_int rfl (vl rfl) (vl rfl) rfl) ?_
  refine Ch.as rfl rfl rfl rfl rfl ?_
  refine Ch.nil (Fin.go (Tr.block ?_))
  refine Tr.loopD3V0 [(0, _), (1, _)] ⟨ke rfl, ke rfl, trivial⟩ (fun (st : List Fct) (i : Nat) (j : Nat) => [(5, int ((i : Nat) : Int)), (6, int ((j : Nat) : Int))]) (fun (st : List Fct) (i : Nat) (j : Nat) => Hp M0 w0 S (cellsRes true b 40 ((st.map rowFc).flatten ++ sp.map is) :: extRes M1 w1 :: rs)) (fun (st : List Fct) (i : Nat) (j : Nat) => DelI p l st i j) (fun (st : List Fct) (i : Nat) (j : Nat) => l.length - j) (l) ((idx p l).toNat) ((idx p l).toNat + 1)  (hdi) ⟨⟨_, rfl, int_eq (by omega)⟩, ⟨_, rfl, int_eq (by omega)⟩, trivial⟩ (fun _ _ h => h) ?_
  rintro st i j  hdi
  obtain ⟨hsl, hij, hjl, htk, hdr⟩ := id hdi
  refine Tr.seq (Tr.seq (Tr.reg0 ?_))
  refine Ch.mv rfl rfl rfl rfl rfl ?_
  refine Ch.mv rfl rfl rfl rfl rfl ?_
  refine Ch.oo rfl rfl rfl (okb_len rfl Tryz.underlying29 (vl rfl)) ?_
  refine Ch.oo rfl rfl rfl (ok_int rfl (vl rfl) (vl rfl) rfl) ?_
  refine Ch.nil (Fin.go ?_)
  refine Tr.cn rfl (fun h2 q2 => ?_) (fun h2 q2 => ?_)
  ·
   have hjl2 : j < l.length := by have := lt_of_dec h2; omega
   obtain ⟨x, hlx⟩ := at_ (l := l) (k := j) hjl2
   have hx : st[j]? = some x := (del_at hdi).trans hlx
   refine Tr.skip (Fin.go (Tr.seq (Tr.block (Tr.seq (Tr.regT ?_)))))
   refine TO.mv rfl rfl rfl rfl rfl ?_
   refine TO.mv rfl rfl rfl rfl rfl ?_
   refine TO.oo rfl rfl rfl (okp_indexSl rfl Tryz.underlying29 sz40 (vl rfl) (vl rfl) (by omega) (by omega)) ?_
   refine TO.rd 0 rfl rfl rfl (by decide) (rd_loadA rfl agg40 sz40 (vl rfl) (cells_atN (f := rowFc) (fun _ => rfl) hx) rfl) ?_
   refine TO.alloc rfl rfl (by decide) rfl z40 zo40 (fun b1 => ?_)
   refine TO.store_all 0 rfl rfl rfl (vl rfl) (VL.le (vl rfl) (agg_cellsP _)) rfl sz40 rfl rfl ?_
   refine TO.freeze 0 7 rfl rfl ?_
   refine TO.nil (Fin.go ?_)
   refine Tr.w5 0 1 5 6 7 rfl rfl rfl rfl rfl ?_
   refine Tr.seq (Tr.reg0 ?_)
   refine Ch.mv rfl rfl rfl rfl rfl ?_
   refine Ch.oo rfl rfl rfl (ok_loadA rfl agg40 sz40 (vl rfl) rfl rfl) ?_
   refine Ch.oo rfl rfl rfl (ok_callc x rfl (vl rfl) ⟨ke rfl, trivial⟩) ?_
   refine Ch.oo rfl rfl rfl (ok_not rfl (vl rfl)) ?_
   refine Ch.nil (Fin.go ?_)
   refine Tr.cn rfl (fun h3 q3 => ?_) (fun h3 q3 => ?_)
   ·
    refine Tr.seq (Tr.regT ?_)
    refine TO.mv rfl rfl rfl rfl rfl ?_
    refine TO.mv rfl rfl rfl rfl rfl ?_
    refine TO.oo rfl rfl rfl (ok_loadA rfl agg40 sz40 (vl rfl) rfl rfl) ?_
    refine TO.oo rfl rfl rfl (okp_indexSl rfl Tryz.underlying29 sz40 (vl rfl) (vl rfl) (by omega) (by omega)) ?_
    refine TO.ef0 0 rfl rfl (ef_store rfl rfl (vl rfl) (VL.le (vl rfl) (agg_cellsP _)) sz40 rfl (by rw [cells_len (sz := 8) (fun _ => rfl)]; omega) (cells_setN (f := rowFc) (fun _ => rfl) (by omega))) ?_
    refine TO.nil (Fin.go (Tr.reg0 ?_))
    refine Ch.mv rfl rfl rfl rfl rfl ?_
    first
     | (refine Ch.oo rfl rfl rfl (ok_add rfl (vl rfl) (vl rfl) ?hin) ?_; case hin => unfold InI; omega)
     | refine Ch.oo rfl rfl rfl (ok_int rfl (vl rfl) (vl rfl) rfl) ?_
    refine Ch.as rfl rfl rfl rfl rfl ?_
    refine Ch.nil (Fin.block (Fin.go ?_))
    refine Tr.w4 0 1 5 6 rfl rfl rfl rfl ?_
    refine Tr.reg0 ?_
    refine Ch.mv rfl rfl rfl rfl rfl ?_
    first
     | (refine Ch.oo rfl rfl rfl (ok_add rfl (vl rfl) (vl rfl) ?hin) ?_; case hin => unfold InI; omega)
     | refine Ch.oo rfl rfl rfl (ok_int rfl (vl rfl) (vl rfl) rfl) ?_
    refine Ch.as rfl rfl rfl rfl rfl ?_
    refine Ch.nil ?_
    exact Fin.famD3V0 (st.set i x) (i + 1) (j + 1)  (⟨del_keep hdi hlx (by simp_all), by omega⟩) ⟨⟨_, rfl, int_succ i⟩, ⟨_, rfl, int_succ j⟩, ke rfl, ke rfl, trivial⟩ (fun _ _ h => h)
   ·
    refine Tr.skip (Fin.block (Fin.go (Tr.reg0 ?_)))
    refine Ch.mv rfl rfl rfl rfl rfl ?_
    first
     | (refine Ch.oo rfl rfl rfl (ok_add rfl (vl rfl) (vl rfl) ?hin) ?_; case hin => unfold InI; omega)
     | refine Ch.oo rfl rfl rfl (ok_int rfl (vl rfl) (vl rfl) rfl) ?_
    refine Ch.as rfl rfl rfl rfl rfl ?_
    refine Ch.nil ?_
    exact Fin.famD3V0 (st) (i) (j + 1)  (⟨del_drop hdi hlx (by simp_all), by omega⟩) ⟨ke rfl, ⟨_, rfl, int_succ j⟩, ke rfl, ke rfl, trivial⟩ (fun _ _ h => h)
  ·
   have hje : j = l.length := by have := ge_of_dec h2; omega
   subst hje
   obtain ⟨he1, he2, he3, he4⟩ := del_end hdi
   refine Tr.exit ?_
   refine Fin.then_exit ?_
   refine Fin.then_exit ?_
   refine Fin.block_here ?_
   refine Fin.go (Tr.seq (Tr.regT ?_))
   refine TO.mv rfl rfl rfl rfl rfl ?_
   refine TO.mv rfl rfl rfl rfl rfl ?_
   refine TO.oo rfl rfl rfl (okb_sliceFrom rfl Tryz.underlying29 sz40 (vl rfl) (vl rfl) (by omega) (by omega) (by omega)) ?_
   refine TO.ef0 0 rfl rfl (ef_clear rfl rfl Tryz.underlying29 sz40 z40 rfl (by decide) (by decide) (vl rfl) (by omega) (by rw [cells_len (sz := 8) (fun _ => rfl)]; omega) (cells_clearN (f := rowFc) (fun _ => rfl) (z := zeroFct) (by omega) (by omega))) ?_
   refine TO.nil (Fin.go (Tr.seq (Tr.reg0 ?_)))
   refine Ch.mv rfl rfl rfl rfl rfl ?_
   refine Ch.mv rfl rfl rfl rfl rfl ?_
   refine Ch.oo rfl rfl rfl (okb_sliceTo rfl Tryz.underlying29 sz40 (vl rfl) (vl rfl) (by omega) (by omega) (by omega) (by omega)) ?_
   refine Ch.as rfl rfl rfl rfl rfl ?_
   refine Ch.nil (Fin.go ?_)
   refine Tr.w1 4 rfl ?_
   refine Tr.ret ?_
   refine Fin.retM1 rfl rfl ?_ (fun _ _ _ _ => by rw [← he2, ← he1, ← he3, List.map_append, List.flatten_append, List.append_assoc])
   · refine Pr.le_of_eq ?_; rw [List.length_map, ← he2, Int.toNat_natCast]
set_option maxRecDepth 20000 in
theorem w_Without0 {o : List Fct}  : Fun Tryz.prog 40 [fcts [], fcts o] (fcts []) := by
 refine Fun.of Tryz.func40 rfl rfl (by exact Nat.le_of_ble_eq_true rfl) fun M0 w0 => ?_
 refine Tr.seq (Tr.reg0 ?_)
 refine Ch.oo rfl rfl rfl (ok_box rfl (VL.le (vl rfl) (one_cellsP _))) ?_
 refine Ch.as rfl rfl rfl rfl rfl ?_
 refine Ch.nil (Fin.go (Tr.seq (Tr.reg0 ?_)))
 refine Ch.mv rfl rfl rfl rfl rfl ?_
 refine Ch.oo rfl rfl rfl (ok_call rfl (w_Clone0) ⟨ke rfl, trivial⟩) ?_
 refine Ch.oo rfl rfl rfl (ok_makeFunc rfl rfl) ?_
 refine Ch.oo rfl rfl rfl (ok_call rfl (w_Delete0 (p := fun x => o.any (alikeF x))) ⟨ke rfl, ⟨_, rfl, fn_le_clo e_W1 (fun x => w_W1 (x := x) (o := o))⟩, trivial⟩) ?_
 refine Ch.as rfl rfl rfl rfl rfl ?_
 refine Ch.nil (Fin.go (Tr.ret ?_))
 refine Fin.ret1 rfl (OutW.bse _ _) rfl ?_
 · first | exact Pr.le_refl _ | (refine int_eq ?_; simp_all; done) | (refine bool_eq ?_; simp_all; done) | (refine bool_eq ?_; simp_all; omega) | (refine int_eq ?_; omega)
set_option maxRecDepth 20000 in
theorem w_WithoutN {l o : List Fct} (h0 : l ≠ []) (hl : l.length ≤ 100000) : Fun Tryz.prog 40 [fcts l, fcts o] (fcts (without o l)) := by
 refine Fun.of Tryz.func40 rfl rfl (by exact Nat.le_of_ble_eq_true rfl) fun M0 w0 => ?_
 refine Tr.seq (Tr.reg0 ?_)
 refine Ch.oo rfl rfl rfl (ok_box rfl (VL.le (vl rfl) (one_cellsP _))) ?_
 refine Ch.as rfl rfl rfl rfl rfl ?_
 refine Ch.nil (Fin.go (Tr.seq (Tr.regT ?_)))
 refine TO.mv rfl rfl rfl rfl rfl ?_
 refine TO.pad ?_
 refine TO.efs 0 rfl rfl (by decide) (ef_call rfl rfl (by decide) rfl (w_CloneM (by assumption) (by omega)) ⟨ke rfl, trivial⟩) (fun v1 => ?_)
 refine TO.openM 0 rfl fun b1 cap1 sp1 hv1 hg1 hm1 hs1 => ?_
 subst hv1
 refine TO.oo rfl rfl rfl (ok_makeFunc rfl rfl) ?_
 refine TO.efc 0 rfl rfl (by decide) (ef_callc rfl rfl (by decide) rfl (w_DeleteF (l := l) (p := fun x => o.any (alikeF x)) (sp := sp1) hg1 hm1 hs1) ⟨⟨_, rfl, andIs_is _ _⟩, ⟨_, rfl, fn_le_clo e_W1 (fun x => w_W1 (x := x) (o := o))⟩, trivial⟩) ?_
 refine TO.as rfl rfl rfl rfl rfl ?_
 refine TO.nil (Fin.go (Tr.ret ?_))
 refine Fin.frzS (sz := 8) ((without o l).map rowFc) 0 4 rfl rfl (Pr.le_refl _) (map_rows fun _ => rfl) (by rw [List.length_map] at hg1 ⊢; exact Nat.le_trans (List.length_filter_le _ _) hg1) hm1 (by simp only [List.length_append, List.length_map, hs1]; rw [flat_len (sz := 8) (map_rows fun _ => rfl)]; simp only [List.length_map, List.length_replicate]; exact spare_len (by rw [List.length_map] at hg1; exact hg1) (List.length_filter_le _ _)) ?_
 refine Fin.ret1 rfl (OutW.bse _ _) rfl ?_
 · exact andIs_le _ _
theorem w_Without {l o : List Fct} (hl : l.length ≤ 100000) : Fun Tryz.prog 40 [fcts l, fcts o] (fcts (without o l)) := by
  by_cases h : l = []
  · subst h; exact w_Without0
  · exact w_WithoutN h hl

set_option maxRecDepth 20000 in
theorem w_Changes {a b : List Fct} (ha : a.length ≤ 100000) (hb : b.length ≤ 100000) : Fun Tryz.prog 15 [fcts a, fcts b] (tup [fcts (without a b), fcts (without b a)]) := by
 refine Fun.of Tryz.func15 rfl rfl (by exact Nat.le_of_ble_eq_true rfl) fun M0 w0 => ?_
 refine Tr.seq (Tr.reg0 ?_)
 refine Ch.as rfl rfl rfl rfl rfl ?_
 refine Ch.as rfl rfl rfl rfl rfl ?_
 refine Ch.nil (Fin.go (Tr.seq (Tr.reg0 ?_)))
 refine Ch.mv rfl rfl rfl rfl rfl ?_
 refine Ch.mv rfl rfl rfl rfl rfl ?_
 refine Ch.oo rfl rfl rfl (ok_call rfl (w_Without (by assumption)) ⟨ke rfl, ke rfl, trivial⟩) ?_
 refine Ch.mv rfl rfl rfl rfl rfl ?_
 refine Ch.mv rfl rfl rfl rfl rfl ?_
 refine Ch.oo rfl rfl rfl (ok_call rfl (w_Without (by assumption)) ⟨ke rfl, ke rfl, trivial⟩) ?_
 refine Ch.as rfl rfl rfl rfl rfl ?_
 refine Ch.as rfl rfl rfl rfl rfl ?_
 refine Ch.nil (Fin.go (Tr.ret ?_))
 refine Fin.ret2 rfl (OutW.bse _ _) rfl ?_ rfl ?_
 · first | exact Pr.le_refl _ | (refine int_eq ?_; simp_all; done) | (refine bool_eq ?_; simp_all; done) | (refine bool_eq ?_; simp_all; omega) | (refine int_eq ?_; omega)
 · first | exact Pr.le_refl _ | (refine int_eq ?_; simp_all; done) | (refine bool_eq ?_; simp_all; done) | (refine bool_eq ?_; simp_all; omega) | (refine int_eq ?_; omega)
end Go.Proofs.YthmnoekgicggnaaGreat
namespace Go.Proofs.YthmnoekgicggnaaGreat
open Go Go.RowKit Cp

abbrev aF : Fnd := ⟨1, [97], 1, 3, 9, 1, [115], 1, 0, 0, []⟩
abbrev aG : Fnd := ⟨1, [97], 1, 5, 9, 8, [115], 1, 0, 0, []⟩
abbrev aX : Fct := ⟨0, [115], 1, 1, 0, 0, [], 0⟩
theorem a_check : ∀ f ∈ [aF, aG], checkF f = true := by decide +kernel
theorem a_fits : ∀ f ∈ [aF, aG], f.fits := by
  intro f hf
  simp at hf
  rcases hf with rfl | rfl <;> exact ⟨by simp [maxLen], by simp [maxLen], by simp [maxLen]⟩
theorem a_norm : [aF, aG].foldl putF [] = [aF, aG] := by kernel_rfl
theorem a_NormP : NormP [aF, aG] := by have := norm_ok a_check (by simp); rwa [a_norm] at this
theorem w_NormA : Fun Tryz.prog 34 [fnds [aF, aG]] (tup [fnds [aF, aG], int 0]) := by
  have := w_R14Norm (l := [aF, aG]) a_check (by simp); rwa [a_norm] at this
theorem a_asc : Asc [0, 1] := by
  intro j x y hx hy
  match j with
  | 0 => simp at hx hy; omega
  | k + 1 => simp at hy
theorem a_in : InR [0, 1] [aF, aG].length := by intro i hi; simp at hi; rcases hi with rfl | rfl <;> simp
theorem a_dec4 : (decM [aF, aG] [0, 1] 4 100).filterMap (fun p => factOf [aF, aG] 0 p.2) = [aX] := by decide +kernel
theorem a_dec5 : (decM [aF, aG] [0, 1] 5 100).filterMap (fun p => factOf [aF, aG] 0 p.2) = [] := by decide +kernel
theorem w_FactsA : Fun Tryz.prog 12 [fnds [aF, aG], entP 0 [0, 1], int 4, int 100] (tup [fcts [aX], int 0]) := by
  have := w_Facts1 (l := [aF, aG]) (n := 0) (t := 4) (o := 100) (own := [0, 1]) a_NormP a_fits (by omega) (by omega) a_asc a_in (by simp) (by decide +kernel); rwa [a_dec4] at this
theorem w_FactsB : Fun Tryz.prog 12 [fnds [aF, aG], entP 0 [0, 1], int 5, int 100] (tup [fcts [], int 0]) := by
  have := w_Facts1 (l := [aF, aG]) (n := 0) (t := 5) (o := 100) (own := [0, 1]) a_NormP a_fits (by omega) (by omega) a_asc a_in (by simp) (by decide +kernel); rwa [a_dec5] at this
theorem w_UsesA : Fun Tryz.prog 20 [fcts [aX], str [115]] (usesP [(1, 0)]) := w_Uses (l := [aX]) (s := [115]) (by simp)

set_option maxRecDepth 20000 in
theorem w_awake   : Fun Tryz.prog 9 [] (bool true) := by
 refine Fun.of Tryz.func9 rfl rfl (by exact Nat.le_of_ble_eq_true rfl) fun M0 w0 => ?_
 refine Tr.seq (Tr.reg0 ?_)
 refine Ch.as rfl rfl rfl rfl rfl ?_
 refine Ch.nil (Fin.go (Tr.seq (Tr.regT ?_)))
 refine TO.oo rfl rfl rfl (ok_build (rows := [(0, [_])]) rfl bl38 zo38 ⟨⟨rfl, (VL.le (vl rfl) (one_cellsP _))⟩, trivial⟩ rfl) ?_
 refine TO.oo rfl rfl rfl (ok_build (rows := [(0, [_]), (1, [_]), (2, [_]), (3, [_]), (4, [_]), (5, [_]), (6, [_]), (7, _)]) rfl bl42 zo42 ⟨⟨rfl, (VL.le (vl rfl) (one_cellsP _))⟩, ⟨⟨rfl, (VL.le (vl rfl) (one_cellsP _))⟩, ⟨⟨rfl, (VL.le (vl rfl) (one_cellsP _))⟩, ⟨⟨rfl, (VL.le (vl rfl) (one_cellsP _))⟩, ⟨⟨rfl, (VL.le (vl rfl) (one_cellsP _))⟩, ⟨⟨rfl, (VL.le (vl rfl) (one_cellsP _))⟩, ⟨⟨rfl, (VL.le (vl rfl) (one_cellsP _))⟩, ⟨⟨rfl, (VL.le (vl rfl) (agg_cellsP _))⟩, trivial⟩⟩⟩⟩⟩⟩⟩⟩ rfl) ?_
 refine TO.alloc rfl rfl (by decide) rfl z42 zo42 (fun b1 => ?_)
 refine TO.store_all 0 rfl rfl rfl (vl rfl) (VL.le (vl rfl) (agg_cellsP _)) rfl sz42 rfl rfl ?_
 refine TO.freeze 0 1 rfl rfl ?_
 refine TO.nil (Fin.go (Tr.seq (Tr.regT ?_)))
 refine TO.oo rfl rfl rfl (ok_loadA rfl agg42 sz42 (vl rfl) rfl rfl) ?_
 refine TO.alloc rfl rfl (by decide) rfl z42 zo42 (fun b2 => ?_)
 refine TO.store_all 0 rfl rfl rfl (vl rfl) (VL.le (vl rfl) (agg_cellsP _)) rfl sz42 rfl rfl ?_
 refine TO.nil (Fin.go (Tr.seq (Tr.regT ?_)))
 refine TO.oo rfl rfl rfl (okp_fieldAddr rfl fo42_5 (vl rfl)) ?_
 refine TO.ef0 0 rfl rfl (ef_store rfl rfl (vl rfl) (VL.le (vl rfl) (one_cellsP _)) sz3 rfl (by exact Nat.le_of_ble_eq_true rfl) rfl) ?_
 refine TO.oo rfl rfl rfl (okp_fieldAddr rfl fo42_3 (vl rfl)) ?_
 refine TO.ef0 0 rfl rfl (ef_store rfl rfl (vl rfl) (VL.le (vl rfl) (one_cellsP _)) sz3 rfl (by exact Nat.le_of_ble_eq_true rfl) rfl) ?_
 refine TO.nil (Fin.go (Tr.seq (Tr.reg0 ?_)))
 refine Ch.oo rfl rfl rfl (ok_loadA rfl agg42 sz42 (vl rfl) rfl rfl) ?_
 refine Ch.oo rfl rfl rfl (ok_rd 0 rfl (rd_loadA rfl agg42 sz42 (vl rfl) rfl rfl)) ?_
 refine Ch.oo rfl rfl rfl (ok_buildSlice (xs := [.tmp 16, .tmp 17]) (rows := [_, _]) rfl rfl Tryz.underlying27 sz42 z42 rfl (by decide) ⟨⟨(by exact rfl), (VL.le (vl rfl) (agg_cellsP _))⟩, ⟨⟨(by exact rfl), (VL.le (vl rfl) (agg_cellsP _))⟩, trivial⟩⟩ (by decide)) ?_
 refine Ch.oo rfl rfl rfl (ok_call rfl (w_NormA) ⟨⟨_, rfl, full_le _ _⟩, trivial⟩) ?_
 refine Ch.mv rfl rfl rfl rfl rfl ?_
 refine Ch.oo rfl rfl rfl (ok_extract rfl (vl rfl) rfl) ?_
 refine Ch.oo rfl rfl rfl (ok_extract rfl (vl rfl) rfl) ?_
 refine Ch.as rfl rfl rfl rfl rfl ?_
 refine Ch.as rfl rfl rfl rfl rfl ?_
 refine Ch.nil (Fin.go ?_)
 refine Tr.drop 0 ?_
 refine Tr.w1 3 rfl ?_
 refine Tr.seq (Tr.regT ?_)
 refine TO.oo rfl rfl rfl (ok_buildSlice (xs := [.const (.int .i64 (0)), .const (.int .i64 (1))]) (rows := [[_], [_]]) rfl rfl Tryz.underlying22 sz3 z3 rfl (by decide) ⟨⟨(by exact rfl), (VL.le (vl rfl) (one_cellsP _))⟩, ⟨⟨(by exact rfl), (VL.le (vl rfl) (one_cellsP _))⟩, trivial⟩⟩ (by decide)) ?_
 refine TO.oo rfl rfl rfl (ok_build (rows := [(3, [_])]) rfl bl35 zo35 ⟨⟨rfl, ⟨_, rfl, Pr.le_trans (full_le _ _) (one_cellsP _)⟩⟩, trivial⟩ rfl) ?_
 refine TO.alloc rfl rfl (by decide) rfl z35 zo35 (fun b3 => ?_)
 refine TO.store_all 0 rfl rfl rfl (vl rfl) (VL.le (vl rfl) (agg_cellsP _)) rfl sz35 rfl rfl ?_
 refine TO.freeze 0 5 rfl rfl ?_
 refine TO.nil (Fin.go (Tr.seq (Tr.reg0 ?_)))
 refine Ch.mv rfl rfl rfl rfl rfl ?_
 refine Ch.oo rfl rfl rfl (ok_loadA rfl agg35 sz35 (vl rfl) rfl rfl) ?_
 refine Ch.oo rfl rfl rfl (ok_call rfl (w_FactsA) ⟨ke rfl, ⟨_, rfl, agg_le ⟨Pr.le_refl _, le_any _, le_any _, Pr.le_refl _, trivial⟩⟩, ke rfl, ke rfl, trivial⟩) ?_
 refine Ch.mv rfl rfl rfl rfl rfl ?_
 refine Ch.oo rfl rfl rfl (ok_extract rfl (vl rfl) rfl) ?_
 refine Ch.oo rfl rfl rfl (ok_extract rfl (vl rfl) rfl) ?_
 refine Ch.as rfl rfl rfl rfl rfl ?_
 refine Ch.as rfl rfl rfl rfl rfl ?_
 refine Ch.nil (Fin.go ?_)
 refine Tr.w4 3 5 6 7 rfl rfl rfl rfl ?_
 refine Tr.seq (Tr.reg0 ?_)
 refine Ch.mv rfl rfl rfl rfl rfl ?_
 refine Ch.oo rfl rfl rfl (ok_loadA rfl agg35 sz35 (vl rfl) rfl rfl) ?_
 refine Ch.oo rfl rfl rfl (ok_call rfl (w_FactsB) ⟨ke rfl, ⟨_, rfl, agg_le ⟨Pr.le_refl _, le_any _, le_any _, Pr.le_refl _, trivial⟩⟩, ke rfl, ke rfl, trivial⟩) ?_
 refine Ch.mv rfl rfl rfl rfl rfl ?_
 refine Ch.oo rfl rfl rfl (ok_extract rfl (vl rfl) rfl) ?_
 refine Ch.oo rfl rfl rfl (ok_extract rfl (vl rfl) rfl) ?_
 refine Ch.as rfl rfl rfl rfl rfl ?_
 refine Ch.as rfl rfl rfl rfl rfl ?_
 refine Ch.nil (Fin.go (Tr.seq (Tr.reg0 ?_)))
 refine Ch.mv rfl rfl rfl rfl rfl ?_
 refine Ch.oo rfl rfl rfl (ok_int rfl (vl rfl) (vl rfl) rfl) ?_
 refine Ch.mv rfl rfl rfl rfl rfl ?_
 refine Ch.cs 38 rfl (fun h1 q1 => ?_) (fun h1 q1 => ?_)
 ·
  refine Ch.ym h1 rfl rfl rfl rfl rfl rfl rfl ?_
  refine Ch.y h1 rfl rfl rfl rfl rfl (ok_int rfl (vl rfl) (vl rfl) rfl) ?_
  refine Ch.oo rfl rfl rfl (ok_pick_t rfl (vl rfl) h1 (vl rfl)) ?_
  refine Ch.mv rfl rfl rfl rfl rfl ?_
  refine Ch.cs 42 rfl (fun h2 q2 => ?_) (fun h2 q2 => ?_)
  ·
   refine Ch.ym h2 rfl rfl rfl rfl rfl rfl rfl ?_
   first
    | refine Ch.y h2 rfl rfl rfl rfl rfl (ok_lenm rfl Tryz.underlying29 (vl rfl)) ?_
    | refine Ch.y h2 rfl rfl rfl rfl rfl (ok_len rfl Tryz.underlying29 (vl rfl)) ?_
   refine Ch.y h2 rfl rfl rfl rfl rfl (ok_int rfl (vl rfl) (vl rfl) rfl) ?_
   refine Ch.oo rfl rfl rfl (ok_pick_t rfl (vl rfl) h2 (vl rfl)) ?_
   refine Ch.mv rfl rfl rfl rfl rfl ?_
   refine Ch.cs 47 rfl (fun h3 q3 => ?_) (fun h3 q3 => ?_)
   ·
    refine Ch.ym h3 rfl rfl rfl rfl rfl rfl rfl ?_
    first
     | refine Ch.y h3 rfl rfl rfl rfl rfl (ok_lenm rfl Tryz.underlying29 (vl rfl)) ?_
     | refine Ch.y h3 rfl rfl rfl rfl rfl (ok_len rfl Tryz.underlying29 (vl rfl)) ?_
    refine Ch.y h3 rfl rfl rfl rfl rfl (ok_int rfl (vl rfl) (vl rfl) rfl) ?_
    refine Ch.oo rfl rfl rfl (ok_pick_t rfl (vl rfl) h3 (vl rfl)) ?_
    refine Ch.mv rfl rfl rfl rfl rfl ?_
    refine Ch.cs 52 rfl (fun h4 q4 => ?_) (fun h4 q4 => ?_)
    ·
     refine Ch.ym h4 rfl rfl rfl rfl rfl rfl rfl ?_
     refine Ch.y h4 rfl rfl rfl rfl rfl (ok_call rfl (w_UsesA) ⟨ke rfl, ke rfl, trivial⟩) ?_
     first
      | refine Ch.y h4 rfl rfl rfl rfl rfl (ok_lenm rfl Tryz.underlying50 (vl rfl)) ?_
      | refine Ch.y h4 rfl rfl rfl rfl rfl (ok_len rfl Tryz.underlying50 (vl rfl)) ?_
     refine Ch.y h4 rfl rfl rfl rfl rfl (ok_int rfl (vl rfl) (vl rfl) rfl) ?_
     refine Ch.oo rfl rfl rfl (ok_pick_t rfl (vl rfl) h4 (vl rfl)) ?_
     refine Ch.as rfl rfl rfl rfl rfl ?_
     refine Ch.nil (Fin.go ?_)
     refine Tr.w1 0 rfl ?_
     refine Tr.ret ?_
     refine Fin.ret1 rfl (OutW.bse _ _) rfl ?_
     · first | exact Pr.le_refl _ | (refine int_eq ?_; simp_all; done) | (refine bool_eq ?_; simp_all; done) | (refine bool_eq ?_; simp_all; omega) | (refine int_eq ?_; omega)
    ·
     exfalso; simp at h4
   ·
    exfalso; simp at h3
  ·
   exfalso; simp at h2
 ·
  exfalso; simp at h1
end Go.Proofs.YthmnoekgicggnaaGreat
namespace Go.Proofs.YthmnoekgicggnaaGreat
open Go Go.RowKit Cp

theorem fact_in {φ : Prop} {p q : Pr} (h : φ) (hl : Pr.le p q) : Pr.le p (fact φ q) := fun _ _ _ hp => ⟨h, hl _ _ _ hp⟩
theorem tab_pos {l : List UInt8} {x : Nat} {hl : x < l.length} (h : (l.drop 1).all (fun b => decide (1 ≤ b.toNat)) = true) (h0 : 1 ≤ x) : ¬ IntKind.i64.wrap (IntKind.i64.wrap ((l[x]).toNat : Int)) = 0 := by
  have h1 : (l.drop 1)[x - 1]? = some l[x] := by rw [List.getElem?_drop, show 1 + (x - 1) = x by omega, List.getElem?_eq_getElem hl]
  have := List.all_eq_true.1 h _ (List.mem_of_getElem? h1)
  have hb : (l[x]).toNat < 256 := UInt8.toNat_lt _
  have hw := IntWalk.i64_in ((l[x]).toNat : Int) ⟨by omega, by omega⟩
  rw [hw, hw]
  simp at this; omega
theorem asc_lt {l : List Int} (h : Asc l) : ∀ (d i : Nat) {x y : Int}, l[i]? = some x → l[i + (d + 1)]? = some y → x < y
  | 0, i, x, y, hx, hy => h i x y hx hy
  | d + 1, i, x, y, hx, hy => by
    have hlt : i + (d + 1) < l.length := by
      rcases Nat.lt_or_ge (i + (d + 1)) l.length with h' | h'
      · exact h'
      · rw [List.getElem?_eq_none (by omega)] at hy; cases hy
    have h1 := asc_lt h d i hx (List.getElem?_eq_getElem hlt)
    have h2 := h (i + (d + 1)) _ y (List.getElem?_eq_getElem hlt) (by rw [show i + (d + 1) + 1 = i + (d + 1 + 1) by omega]; exact hy)
    omega
theorem asc_ltI {l : List Int} (h : Asc l) {i j : Int} {x y : Int} (h0 : 0 ≤ i) (hij : i < j) (hx : l[i.toNat]? = some x) (hy : l[j.toNat]? = some y) : x < y :=
  asc_lt h (j.toNat - i.toNat - 1) i.toNat hx (by rw [show i.toNat + (j.toNat - i.toNat - 1 + 1) = j.toNat by omega]; exact hy)

set_option maxRecDepth 20000 in
theorem w_Len64p {x : Int} (h0 : 1 ≤ x) (h1 : x < 256) : Fun Tryz.prog 114 [is (.int .u64 x)] (ex fun k : Int => fact (¬ k = 0) (int k)) := by
 refine Fun.of Tryz.func114 rfl rfl (by exact Nat.le_of_ble_eq_true rfl) fun M0 w0 => ?_
 have hw : IntKind.u8.wrap x = x := IntWalk.u8_in x ⟨by omega, by omega⟩
 refine Tr.seq (Tr.reg0 ?_)
 refine Ch.as rfl rfl rfl rfl rfl ?_
 refine Ch.nil (Fin.go (Tr.seq (Tr.seq (Tr.reg0 ?_))))
 refine Ch.mv rfl rfl rfl rfl rfl ?_
 refine Ch.oo rfl rfl rfl (ok_int rfl (vl rfl) (vl rfl) rfl) ?_
 refine Ch.nil (Fin.go ?_)
 refine Tr.cn rfl (fun h1 q1 => ?_) (fun h1 q1 => ?_)
 ·
  exfalso; omega
 ·
  refine Tr.skip (Fin.go (Tr.seq (Tr.seq (Tr.reg0 ?_))))
  refine Ch.mv rfl rfl rfl rfl rfl ?_
  refine Ch.oo rfl rfl rfl (ok_int rfl (vl rfl) (vl rfl) rfl) ?_
  refine Ch.nil (Fin.go ?_)
  refine Tr.cn rfl (fun h2 q2 => ?_) (fun h2 q2 => ?_)
  ·
   exfalso; omega
  ·
   refine Tr.skip (Fin.go (Tr.seq (Tr.seq (Tr.reg0 ?_))))
   refine Ch.mv rfl rfl rfl rfl rfl ?_
   refine Ch.oo rfl rfl rfl (ok_int rfl (vl rfl) (vl rfl) rfl) ?_
   refine Ch.nil (Fin.go ?_)
   refine Tr.cn rfl (fun h3 q3 => ?_) (fun h3 q3 => ?_)
   ·
    exfalso; omega
   ·
    refine Tr.skip (Fin.go (Tr.seq (Tr.reg0 ?_)))
    refine Ch.mv rfl rfl rfl rfl rfl ?_
    refine Ch.mv rfl rfl rfl rfl rfl ?_
    first
     | refine Ch.oo rfl rfl rfl (ok_convI rfl Tryz.underlying138 Tryz.underlying5 (vl rfl) (by unfold InI; omega)) ?_
     | refine Ch.oo rfl rfl rfl (ok_conv rfl Tryz.underlying138 Tryz.underlying5 (vl rfl)) ?_
    refine Ch.oo rfl rfl rfl (ok_sidx rfl Tryz.underlying9 (vl rfl) (vl rfl) (by omega) (List.getElem?_eq_getElem (by show _ < 256; omega))) ?_
    first
     | refine Ch.oo rfl rfl rfl (ok_convI rfl Tryz.underlying5 Tryz.underlying3 (vl rfl) (by unfold InI; omega)) ?_
     | refine Ch.oo rfl rfl rfl (ok_conv rfl Tryz.underlying5 Tryz.underlying3 (vl rfl)) ?_
    first
     | (refine Ch.oo rfl rfl rfl (ok_add rfl (vl rfl) (vl rfl) ?hin) ?_; case hin => unfold InI; omega)
     | refine Ch.oo rfl rfl rfl (ok_int rfl (vl rfl) (vl rfl) rfl) ?_
    refine Ch.as rfl rfl rfl rfl rfl ?_
    refine Ch.nil (Fin.go ?_)
    refine Tr.w1 2 rfl ?_
    refine Tr.ret ?_
    refine Fin.ret1 rfl (OutW.bse _ _) rfl ?_
    · refine ex_in _ (fact_in ?_ (Pr.le_refl _)); rw [Int.zero_add]; refine tab_pos ?_ (by rw [hw]; omega); decide +kernel
set_option maxRecDepth 20000 in
theorem w_BLenp {x : Int} (h0 : 1 ≤ x) (h1 : x < 256) : Fun Tryz.prog 66 [is (.int .u64 x)] (ex fun k : Int => fact (¬ k = 0) (int k)) := by
 refine Fun.of Tryz.func66 rfl rfl (by exact Nat.le_of_ble_eq_true rfl) fun M0 w0 => ?_
 refine Tr.seq (Tr.reg0 ?_)
 refine Ch.as rfl rfl rfl rfl rfl ?_
 refine Ch.nil (Fin.go (Tr.seq ?_))
 refine Tr.cond rfl (fun h => nomatch h) (fun _ => ?_)
 refine Tr.skip (Fin.go (Tr.seq (Tr.reg0 ?_)))
 refine Ch.mv rfl rfl rfl rfl rfl ?_
 refine Ch.oo rfl rfl rfl (ok_call rfl (w_Len64p (by omega) (by omega)) ⟨ke rfl, trivial⟩) ?_
 refine Ch.as rfl rfl rfl rfl rfl ?_
 refine Ch.nil (Fin.go (Tr.ret ?_))
 refine Fin.ret1 rfl (OutW.bse _ _) rfl ?_
 · first | exact Pr.le_refl _ | (refine int_eq ?_; simp_all; done) | (refine bool_eq ?_; simp_all; done) | (refine bool_eq ?_; simp_all; omega) | (refine int_eq ?_; omega)
set_option maxRecDepth 20000 in
theorem w_order2Asc {l : List Int} {a b : Int} (hl : Asc l) (h0 : 0 ≤ a) (hab : a < b) (hb : b < l.length) : Fun Tryz.prog 163 [ints l, int a, int b, any] (tup [int a, int b]) := by
 refine Fun.of Tryz.func163 rfl rfl (by exact Nat.le_of_ble_eq_true rfl) fun M0 w0 => ?_
 obtain ⟨x, hx⟩ := at_ (l := l) (k := a.toNat) (by omega)
 obtain ⟨y, hy⟩ := at_ (l := l) (k := b.toNat) (by omega)
 have hxy := asc_ltI hl h0 hab hx hy
 refine Tr.seq (Tr.reg0 ?_)
 refine Ch.as rfl rfl rfl rfl rfl ?_
 refine Ch.as rfl rfl rfl rfl rfl ?_
 refine Ch.nil (Fin.go (Tr.seq (Tr.seq ?_)))
 refine Tr.reg1 mixed (by kernel_rfl) ?_
 refine Ch.mv rfl rfl rfl rfl rfl ?_
 refine Ch.mv rfl rfl rfl rfl rfl ?_
 refine Ch.oo rfl rfl rfl (ok_indexAddr rfl Tryz.underlying22 sz3 (vl rfl) (vl rfl) (by omega) (at_int hy)) ?_
 refine Ch.oo rfl rfl rfl (ok_load1 rfl one3 (vl rfl)) ?_
 refine Ch.mv rfl rfl rfl rfl rfl ?_
 refine Ch.mv rfl rfl rfl rfl rfl ?_
 refine Ch.oo rfl rfl rfl (ok_indexAddr rfl Tryz.underlying22 sz3 (vl rfl) (vl rfl) (by omega) (at_int hx)) ?_
 refine Ch.oo rfl rfl rfl (ok_load1 rfl one3 (vl rfl)) ?_
 refine Ch.oo rfl rfl rfl (ok_call rfl (w_lessI) ⟨ke rfl, ke rfl, trivial⟩) ?_
 refine Ch.nil (Fin.go ?_)
 refine Tr.cn rfl (fun h1 q1 => ?_) (fun h1 q1 => ?_)
 ·
  exfalso; omega
 ·
  refine Tr.skip (Fin.go (Tr.seq (Tr.reg0 ?_)))
  refine Ch.mv rfl rfl rfl rfl rfl ?_
  refine Ch.mv rfl rfl rfl rfl rfl ?_
  refine Ch.as rfl rfl rfl rfl rfl ?_
  refine Ch.as rfl rfl rfl rfl rfl ?_
  refine Ch.nil (Fin.go ?_)
  refine Tr.w2 8 9 rfl rfl ?_
  refine Tr.ret ?_
  refine Fin.ret2 rfl (OutW.bse _ _) rfl ?_ rfl ?_
  · first | exact Pr.le_refl _ | (refine int_eq ?_; simp_all; done) | (refine bool_eq ?_; simp_all; done) | (refine bool_eq ?_; simp_all; omega) | (refine int_eq ?_; omega)
  · first | exact Pr.le_refl _ | (refine int_eq ?_; simp_all; done) | (refine bool_eq ?_; simp_all; done) | (refine bool_eq ?_; simp_all; omega) | (refine int_eq ?_; omega)
set_option maxRecDepth 20000 in
theorem w_medAsc {l : List Int} {a b c : Int} (hl : Asc l) (h0 : 0 ≤ a) (hab : a < b) (hbc : b < c) (hc : c < l.length) : Fun Tryz.prog 156 [ints l, int a, int b, int c, any] (int b) := by
 refine Fun.of Tryz.func156 rfl rfl (by exact Nat.le_of_ble_eq_true rfl) fun M0 w0 => ?_
 refine Tr.seq (Tr.reg0 ?_)
 refine Ch.as rfl rfl rfl rfl rfl ?_
 refine Ch.nil (Fin.go (Tr.seq (Tr.reg0 ?_)))
 iterate 4 refine Ch.mv rfl rfl rfl rfl rfl ?_
 refine Ch.oo rfl rfl rfl (ok_call rfl (w_order2Asc (by assumption) (by omega) (by omega) (by omega)) ⟨ke rfl, ke rfl, ke rfl, ⟨_, rfl, le_any _⟩, trivial⟩) ?_
 refine Ch.mv rfl rfl rfl rfl rfl ?_
 refine Ch.oo rfl rfl rfl (ok_extract rfl (vl rfl) rfl) ?_
 refine Ch.oo rfl rfl rfl (ok_extract rfl (vl rfl) rfl) ?_
 refine Ch.as rfl rfl rfl rfl rfl ?_
 refine Ch.as rfl rfl rfl rfl rfl ?_
 refine Ch.nil (Fin.go (Tr.seq (Tr.reg0 ?_)))
 iterate 4 refine Ch.mv rfl rfl rfl rfl rfl ?_
 refine Ch.oo rfl rfl rfl (ok_call rfl (w_order2Asc (by assumption) (by omega) (by omega) (by omega)) ⟨ke rfl, ke rfl, ke rfl, ⟨_, rfl, le_any _⟩, trivial⟩) ?_
 refine Ch.mv rfl rfl rfl rfl rfl ?_
 refine Ch.oo rfl rfl rfl (ok_extract rfl (vl rfl) rfl) ?_
 refine Ch.oo rfl rfl rfl (ok_extract rfl (vl rfl) rfl) ?_
 refine Ch.as rfl rfl rfl rfl rfl ?_
 refine Ch.as rfl rfl rfl rfl rfl ?_
 refine Ch.nil (Fin.go ?_)
 refine Tr.w4 0 1 2 4 rfl rfl rfl rfl ?_
 refine Tr.seq (Tr.reg0 ?_)
 iterate 4 refine Ch.mv rfl rfl rfl rfl rfl ?_
 refine Ch.oo rfl rfl rfl (ok_call rfl (w_order2Asc (by assumption) (by omega) (by omega) (by omega)) ⟨ke rfl, ke rfl, ke rfl, ⟨_, rfl, le_any _⟩, trivial⟩) ?_
 refine Ch.mv rfl rfl rfl rfl rfl ?_
 refine Ch.oo rfl rfl rfl (ok_extract rfl (vl rfl) rfl) ?_
 refine Ch.oo rfl rfl rfl (ok_extract rfl (vl rfl) rfl) ?_
 refine Ch.as rfl rfl rfl rfl rfl ?_
 refine Ch.as rfl rfl rfl rfl rfl ?_
 refine Ch.nil (Fin.go ?_)
 refine Tr.w1 2 rfl ?_
 refine Tr.seq (Tr.reg0 ?_)
 refine Ch.mv rfl rfl rfl rfl rfl ?_
 refine Ch.as rfl rfl rfl rfl rfl ?_
 refine Ch.nil (Fin.go (Tr.ret ?_))
 refine Fin.ret1 rfl (OutW.bse _ _) rfl ?_
 · first | exact Pr.le_refl _ | (refine int_eq ?_; simp_all; done) | (refine bool_eq ?_; simp_all; done) | (refine bool_eq ?_; simp_all; omega) | (refine int_eq ?_; omega)
set_option maxRecDepth 20000 in
theorem w_pivAsc {l : List Int} {a b : Int} (hl : Asc l) (h0 : 0 ≤ a) (h8 : 8 ≤ b - a) (h50 : b - a < 50) (hb : b ≤ l.length) (hs : l.length ≤ 1000000) : Fun Tryz.prog 128 [ints l, int a, int b] (tup [any, int 1]) := by
 refine Fun.of Tryz.func128 rfl rfl (by exact Nat.le_of_ble_eq_true rfl) fun M0 w0 => ?_
 have hq : IntKind.i64.wrap ((b - a).tdiv 4) = (b - a) / 4 := by rw [Int.tdiv_eq_ediv_of_nonneg (by omega)]; exact IntWalk.i64_in _ ⟨by omega, by omega⟩
 refine Tr.seq (Tr.reg0 ?_)
 refine Ch.as rfl rfl rfl rfl rfl ?_
 refine Ch.as rfl rfl rfl rfl rfl ?_
 refine Ch.nil (Fin.go (Tr.seq (Tr.reg0 ?_)))
 refine Ch.mv rfl rfl rfl rfl rfl ?_
 refine Ch.mv rfl rfl rfl rfl rfl ?_
 first
  | (refine Ch.oo rfl rfl rfl (ok_sub rfl (vl rfl) (vl rfl) ?hin) ?_; case hin => unfold InI; omega)
  | refine Ch.oo rfl rfl rfl (ok_int rfl (vl rfl) (vl rfl) rfl) ?_
 refine Ch.as rfl rfl rfl rfl rfl ?_
 refine Ch.nil (Fin.go (Tr.seq (Tr.regT ?_)))
 refine TO.alloc rfl rfl (by decide) rfl z3 zo3 (fun b1 => ?_)
 refine TO.nil (Fin.go (Tr.seq (Tr.reg0 ?_)))
 refine Ch.mv rfl rfl rfl rfl rfl ?_
 refine Ch.mv rfl rfl rfl rfl rfl ?_
 refine Ch.oo rfl rfl rfl (ok_quo rfl (vl rfl) (vl rfl) (by omega)) ?_
 first
  | (refine Ch.oo rfl rfl rfl (ok_mul rfl (vl rfl) (vl rfl) ?hin) ?_; case hin => unfold InI; omega)
  | refine Ch.oo rfl rfl rfl (ok_int rfl (vl rfl) (vl rfl) rfl) ?_
 first
  | (refine Ch.oo rfl rfl rfl (ok_add rfl (vl rfl) (vl rfl) ?hin) ?_; case hin => unfold InI; omega)
  | refine Ch.oo rfl rfl rfl (ok_int rfl (vl rfl) (vl rfl) rfl) ?_
 refine Ch.as rfl rfl rfl rfl rfl ?_
 refine Ch.nil (Fin.go ?_)
 refine Tr.w5 0 1 8 9 10 rfl rfl rfl rfl rfl ?_
 refine Tr.seq (Tr.reg0 ?_)
 refine Ch.mv rfl rfl rfl rfl rfl ?_
 refine Ch.mv rfl rfl rfl rfl rfl ?_
 refine Ch.oo rfl rfl rfl (ok_quo rfl (vl rfl) (vl rfl) (by omega)) ?_
 first
  | (refine Ch.oo rfl rfl rfl (ok_mul rfl (vl rfl) (vl rfl) ?hin) ?_; case hin => unfold InI; omega)
  | refine Ch.oo rfl rfl rfl (ok_int rfl (vl rfl) (vl rfl) rfl) ?_
 first
  | (refine Ch.oo rfl rfl rfl (ok_add rfl (vl rfl) (vl rfl) ?hin) ?_; case hin => unfold InI; omega)
  | refine Ch.oo rfl rfl rfl (ok_int rfl (vl rfl) (vl rfl) rfl) ?_
 refine Ch.as rfl rfl rfl rfl rfl ?_
 refine Ch.nil (Fin.go (Tr.seq (Tr.reg0 ?_)))
 refine Ch.mv rfl rfl rfl rfl rfl ?_
 refine Ch.mv rfl rfl rfl rfl rfl ?_
 refine Ch.oo rfl rfl rfl (ok_quo rfl (vl rfl) (vl rfl) (by omega)) ?_
 first
  | (refine Ch.oo rfl rfl rfl (ok_mul rfl (vl rfl) (vl rfl) ?hin) ?_; case hin => unfold InI; omega)
  | refine Ch.oo rfl rfl rfl (ok_int rfl (vl rfl) (vl rfl) rfl) ?_
 first
  | (refine Ch.oo rfl rfl rfl (ok_add rfl (vl rfl) (vl rfl) ?hin) ?_; case hin => unfold InI; omega)
  | refine Ch.oo rfl rfl rfl (ok_int rfl (vl rfl) (vl rfl) rfl) ?_
 refine Ch.as rfl rfl rfl rfl rfl ?_
 refine Ch.nil (Fin.go ?_)
 refine Tr.w6 0 8 9 10 11 12 rfl rfl rfl rfl rfl rfl ?_
 refine Tr.seq (Tr.seq (Tr.reg0 ?_))
 refine Ch.mv rfl rfl rfl rfl rfl ?_
 refine Ch.oo rfl rfl rfl (ok_int rfl (vl rfl) (vl rfl) rfl) ?_
 refine Ch.nil (Fin.go ?_)
 refine Tr.cn rfl (fun h1 q1 => ?_) (fun h1 q1 => ?_)
 ·
  refine Tr.seq (Tr.seq (Tr.reg0 ?_))
  refine Ch.mv rfl rfl rfl rfl rfl ?_
  refine Ch.oo rfl rfl rfl (ok_int rfl (vl rfl) (vl rfl) rfl) ?_
  refine Ch.nil (Fin.go ?_)
  refine Tr.cn rfl (fun h2 q2 => ?_) (fun h2 q2 => ?_)
  ·
   exfalso; omega
  ·
   refine Tr.skip (Fin.go (Tr.reg0 ?_))
   iterate 4 refine Ch.mv rfl rfl rfl rfl rfl ?_
   refine Ch.oo rfl rfl rfl (ok_call rfl (w_medAsc (by assumption) (by omega) (by omega) (by omega) (by omega)) ⟨ke rfl, ke rfl, ke rfl, ke rfl, ⟨_, rfl, le_any _⟩, trivial⟩) ?_
   refine Ch.as rfl rfl rfl rfl rfl ?_
   refine Ch.nil (Fin.go ?_)
   refine Tr.w2 9 11 rfl rfl ?_
   refine Tr.seq (Tr.reg0 ?_)
   refine Ch.oo rfl rfl rfl (ok_rd 0 rfl (rd_load1 rfl one3 (vl rfl) rfl)) ?_
   refine Ch.nil (Fin.go ?_)
   refine Tr.drop 0 ?_
   refine Tr.block (Tr.seq (Tr.reg0 ?_))
   refine Ch.oo rfl rfl rfl (ok_int rfl (vl rfl) (vl rfl) rfl) ?_
   refine Ch.as rfl rfl rfl rfl rfl ?_
   refine Ch.nil (Fin.go ?_)
   refine Tr.cn rfl (fun h3 q3 => ?_) (fun h3 q3 => ?_)
   ·
    refine Tr.seq (Tr.reg0 ?_)
    refine Ch.mv rfl rfl rfl rfl rfl ?_
    refine Ch.as rfl rfl rfl rfl rfl ?_
    refine Ch.as rfl rfl rfl rfl rfl ?_
    refine Ch.nil (Fin.go (Tr.ret ?_))
    refine Fin.block_ret ?_
    refine Fin.ret2 rfl (OutW.bse _ _) rfl ?_ rfl ?_
    · exact le_any _
    · first | exact Pr.le_refl _ | (refine int_eq ?_; simp_all; done) | (refine bool_eq ?_; simp_all; done) | (refine bool_eq ?_; simp_all; omega) | (refine int_eq ?_; omega)
   ·
    exfalso; simp at h3
 ·
  exfalso; omega
set_option maxRecDepth 20000 in
theorem w_partAsc {l : List Int} {a b : Int} (hl : Asc l) (h0 : 0 ≤ a) (hab : a < b) (hb : b ≤ l.length) (hs : l.length ≤ 1000000) : Fun Tryz.prog 130 [ints l, int a, int b] (bool true) := by
 refine Fun.of Tryz.func130 rfl rfl (by exact Nat.le_of_ble_eq_true rfl) fun M0 w0 => ?_
 refine Tr.seq (Tr.reg0 ?_)
 refine Ch.as rfl rfl rfl rfl rfl ?_
 refine Ch.nil (Fin.go (Tr.seq (Tr.reg0 ?_)))
 refine Ch.mv rfl rfl rfl rfl rfl ?_
 first
  | (refine Ch.oo rfl rfl rfl (ok_add rfl (vl rfl) (vl rfl) ?hin) ?_; case hin => unfold InI; omega)
  | refine Ch.oo rfl rfl rfl (ok_int rfl (vl rfl) (vl rfl) rfl) ?_
 refine Ch.as rfl rfl rfl rfl rfl ?_
 refine Ch.nil (Fin.go (Tr.seq (Tr.seq (Tr.reg0 ?_))))
 refine Ch.as rfl rfl rfl rfl rfl ?_
 refine Ch.nil (Fin.go (Tr.block ?_))
 refine Tr.loopw [(0, _), (1, _), (2, _)] ⟨ke rfl, ke rfl, ke rfl, trivial⟩ (fun (u : Unit) => [(7, int (a + 1)), (8, int 0)]) (fun (u : Unit) => True) (fun (u : Unit) => 0) () (trivial) ⟨ke rfl, ke rfl, trivial⟩ ?_
 rintro u _
 refine Tr.seq (Tr.seq (Tr.reg0 ?_))
 refine Ch.mv rfl rfl rfl rfl rfl ?_
 refine Ch.oo rfl rfl rfl (ok_int rfl (vl rfl) (vl rfl) rfl) ?_
 refine Ch.nil (Fin.go ?_)
 refine Tr.cn rfl (fun h1 q1 => ?_) (fun h1 q1 => ?_)
 ·
  have := h1
  refine Tr.skip (Fin.go (Tr.seq (Tr.block (Tr.seq (Tr.block ?_)))))
  refine Tr.loopw [(0, _), (1, _), (2, _), (8, _)] ⟨ke rfl, ke rfl, ke rfl, ke rfl, trivial⟩ (fun i : Int => [(7, int i)]) (fun i : Int => a < i ∧ i ≤ b) (fun i : Int => (b - i).toNat) (a + 1) (⟨by omega, by omega⟩) ⟨ke rfl, trivial⟩ ?_
  rintro i ⟨hi1, hi2⟩
  refine Tr.seq (Tr.seq ?_)
  refine Tr.reg1 mixed (by kernel_rfl) ?_
  refine Ch.mv rfl rfl rfl rfl rfl ?_
  refine Ch.mv rfl rfl rfl rfl rfl ?_
  refine Ch.oo rfl rfl rfl (ok_int rfl (vl rfl) (vl rfl) rfl) ?_
  refine Ch.mv rfl rfl rfl rfl rfl ?_
  refine Ch.cs 20 rfl (fun h2 q2 => ?_) (fun h2 q2 => ?_)
  ·
   obtain ⟨x, hx⟩ := at_ (l := l) (k := i.toNat) (by omega)
   obtain ⟨p, hp⟩ := at_ (l := l) (k := (i - 1).toNat) (by omega)
   have hpx := asc_at hl (by omega) hp hx
   refine Ch.ym h2 rfl rfl rfl rfl rfl rfl rfl ?_
   refine Ch.ym h2 rfl rfl rfl rfl rfl rfl rfl ?_
   refine Ch.y h2 rfl rfl rfl rfl rfl (ok_indexAddr rfl Tryz.underlying22 sz3 (vl rfl) (vl rfl) (by omega) (at_int hx)) ?_
   refine Ch.y h2 rfl rfl rfl rfl rfl (ok_load1 rfl one3 (vl rfl)) ?_
   refine Ch.ym h2 rfl rfl rfl rfl rfl rfl rfl ?_
   refine Ch.ym h2 rfl rfl rfl rfl rfl rfl rfl ?_
   first
    | (refine Ch.y h2 rfl rfl rfl rfl rfl (ok_sub rfl (vl rfl) (vl rfl) ?hin) ?_; case hin => unfold InI; omega)
    | refine Ch.y h2 rfl rfl rfl rfl rfl (ok_int rfl (vl rfl) (vl rfl) rfl) ?_
   refine Ch.y h2 rfl rfl rfl rfl rfl (ok_indexAddr rfl Tryz.underlying22 sz3 (vl rfl) (vl rfl) (by omega) (pred_int (by omega) hp)) ?_
   refine Ch.y h2 rfl rfl rfl rfl rfl (ok_load1 rfl one3 (vl rfl)) ?_
   refine Ch.y h2 rfl rfl rfl rfl rfl (ok_call rfl (w_lessI) ⟨ke rfl, ke rfl, trivial⟩) ?_
   refine Ch.y h2 rfl rfl rfl rfl rfl (ok_not rfl (vl rfl)) ?_
   refine Ch.oo rfl rfl rfl (ok_pick_t rfl (vl rfl) h2 (vl rfl)) ?_
   refine Ch.nil (Fin.go ?_)
   refine Tr.w6 0 1 2 7 8 32 rfl rfl rfl rfl rfl rfl ?_
   refine Tr.cn rfl (fun h3 q3 => ?_) (fun h3 q3 => ?_)
   ·
    have := h3
    refine Tr.skip (Fin.go (Tr.block (Tr.reg0 ?_)))
    refine Ch.mv rfl rfl rfl rfl rfl ?_
    first
     | (refine Ch.oo rfl rfl rfl (ok_add rfl (vl rfl) (vl rfl) ?hin) ?_; case hin => unfold InI; omega)
     | refine Ch.oo rfl rfl rfl (ok_int rfl (vl rfl) (vl rfl) rfl) ?_
    refine Ch.as rfl rfl rfl rfl rfl ?_
    refine Ch.nil (Fin.block ?_)
    exact Fin.fam_same (i + 1) ⟨⟨by omega, by omega⟩, by omega⟩ ⟨ke rfl, ke rfl, ke rfl, ke rfl, ke rfl, trivial⟩
   ·
    have := h3
    have hib : i = b := by first | omega | (simp at h3; omega)
    refine Tr.exit ?_
    refine Fin.then_exit ?_
    refine Fin.then_exit ?_
    refine Fin.block_here ?_
    refine Fin.go (Tr.seq (Tr.seq (Tr.reg0 ?_)))
    refine Ch.mv rfl rfl rfl rfl rfl ?_
    refine Ch.mv rfl rfl rfl rfl rfl ?_
    refine Ch.oo rfl rfl rfl (ok_int rfl (vl rfl) (vl rfl) rfl) ?_
    refine Ch.nil (Fin.go ?_)
    refine Tr.cn rfl (fun h4 q4 => ?_) (fun h4 q4 => ?_)
    ·
     refine Tr.seq (Tr.reg0 ?_)
     refine Ch.as rfl rfl rfl rfl rfl ?_
     refine Ch.nil (Fin.go (Tr.ret ?_))
     refine Fin.then_ret ?_
     refine Fin.block_ret ?_
     refine Fin.then_ret ?_
     refine Fin.then_ret ?_
     refine Fin.block_ret ?_
     refine Fin.then_ret ?_
     refine Fin.ret1 rfl (OutW.bse _ _) rfl ?_
     · first | exact Pr.le_refl _ | (refine int_eq ?_; simp_all; done) | (refine bool_eq ?_; simp_all; done) | (refine bool_eq ?_; simp_all; omega) | (refine int_eq ?_; omega)
    ·
     exfalso; omega
  ·
   iterate 11 refine Ch.nt h2 rfl rfl rfl rfl rfl ?_
   refine Ch.oo rfl rfl rfl (ok_pick_f rfl (vl rfl) h2 (vl rfl)) ?_
   refine Ch.nil (Fin.go ?_)
   refine Tr.w6 0 1 2 7 8 32 rfl rfl rfl rfl rfl rfl ?_
   refine Tr.cond rfl (fun h => nomatch h) (fun _ => ?_)
   refine Tr.exit ?_
   refine Fin.then_exit ?_
   refine Fin.then_exit ?_
   refine Fin.block_here ?_
   refine Fin.go (Tr.seq (Tr.seq (Tr.reg0 ?_)))
   refine Ch.mv rfl rfl rfl rfl rfl ?_
   refine Ch.mv rfl rfl rfl rfl rfl ?_
   refine Ch.oo rfl rfl rfl (ok_int rfl (vl rfl) (vl rfl) rfl) ?_
   refine Ch.nil (Fin.go ?_)
   refine Tr.cn rfl (fun h5 q5 => ?_) (fun h5 q5 => ?_)
   ·
    refine Tr.seq (Tr.reg0 ?_)
    refine Ch.as rfl rfl rfl rfl rfl ?_
    refine Ch.nil (Fin.go (Tr.ret ?_))
    refine Fin.then_ret ?_
    refine Fin.block_ret ?_
    refine Fin.then_ret ?_
    refine Fin.then_ret ?_
    refine Fin.block_ret ?_
    refine Fin.then_ret ?_
    refine Fin.ret1 rfl (OutW.bse _ _) rfl ?_
    · first | exact Pr.le_refl _ | (refine int_eq ?_; simp_all; done) | (refine bool_eq ?_; simp_all; done) | (refine bool_eq ?_; simp_all; omega) | (refine int_eq ?_; omega)
   ·
    exfalso; omega
 ·
  have := h1
  exfalso; omega
set_option maxRecDepth 20000 in
theorem w_pdqAsc24 {l : List Int} {a b : Int} (hl : Asc l) (h0 : 0 ≤ a) (hb : b ≤ l.length) (hab : 13 ≤ b - a) (hs : b - a < 50) (hs2 : l.length ≤ 1000000) : Fun Tryz.prog 87 [ints l, int a, int b, ex fun k : Int => fact (¬ k = 0) (int k)] (unit_) := by
 refine Fun.of Tryz.func87 rfl rfl (by exact Nat.le_of_ble_eq_true rfl) fun M0 w0 => ?_
 refine Tr.ex 3 rfl (fun lim => Tr.fact 3 rfl fun hlim => ?_)
 refine Tr.seq (Tr.reg0 ?_)
 refine Ch.as rfl rfl rfl rfl rfl ?_
 refine Ch.nil (Fin.go (Tr.seq (Tr.reg0 ?_)))
 refine Ch.as rfl rfl rfl rfl rfl ?_
 refine Ch.nil (Fin.go (Tr.block ?_))
 refine Tr.loopw [(0, _)] ⟨ke rfl, trivial⟩ (fun (u : Unit) => [(1, int a), (2, int b), (3, int lim), (8, bool true), (9, bool true)]) (fun (u : Unit) => True) (fun (u : Unit) => 0) () (trivial) ⟨ke rfl, ke rfl, ke rfl, ke rfl, ke rfl, trivial⟩ ?_
 rintro u _
 refine Tr.block (Tr.seq (Tr.reg0 ?_))
 refine Ch.mv rfl rfl rfl rfl rfl ?_
 refine Ch.mv rfl rfl rfl rfl rfl ?_
 first
  | (refine Ch.oo rfl rfl rfl (ok_sub rfl (vl rfl) (vl rfl) ?hin) ?_; case hin => unfold InI; omega)
  | refine Ch.oo rfl rfl rfl (ok_int rfl (vl rfl) (vl rfl) rfl) ?_
 refine Ch.as rfl rfl rfl rfl rfl ?_
 refine Ch.nil (Fin.go (Tr.seq (Tr.seq (Tr.reg0 ?_))))
 refine Ch.mv rfl rfl rfl rfl rfl ?_
 refine Ch.oo rfl rfl rfl (ok_int rfl (vl rfl) (vl rfl) rfl) ?_
 refine Ch.nil (Fin.go ?_)
 refine Tr.cn rfl (fun h1 q1 => ?_) (fun h1 q1 => ?_)
 ·
  exfalso; omega
 ·
  refine Tr.skip (Fin.go (Tr.seq (Tr.seq (Tr.reg0 ?_))))
  refine Ch.mv rfl rfl rfl rfl rfl ?_
  refine Ch.oo rfl rfl rfl (ok_int rfl (vl rfl) (vl rfl) rfl) ?_
  refine Ch.nil (Fin.go ?_)
  refine Tr.w8 0 1 2 3 8 9 10 29 rfl rfl rfl rfl rfl rfl rfl rfl ?_
  refine Tr.cn rfl (fun h2 q2 => ?_) (fun h2 q2 => ?_)
  ·
   exfalso; omega
  ·
   refine Tr.skip (Fin.go (Tr.seq (Tr.seq (Tr.reg0 ?_))))
   refine Ch.mv rfl rfl rfl rfl rfl ?_
   refine Ch.oo rfl rfl rfl (ok_not rfl (vl rfl)) ?_
   refine Ch.nil (Fin.go ?_)
   refine Tr.cn rfl (fun h3 q3 => ?_) (fun h3 q3 => ?_)
   ·
    exfalso; simp at h3
   ·
    refine Tr.skip (Fin.go (Tr.seq (Tr.reg0 ?_)))
    iterate 3 refine Ch.mv rfl rfl rfl rfl rfl ?_
    refine Ch.oo rfl rfl rfl (ok_call rfl (w_pivAsc (by assumption) (by omega) (by omega) (by omega) (by omega) (by omega)) ⟨ke rfl, ke rfl, ke rfl, trivial⟩) ?_
    refine Ch.mv rfl rfl rfl rfl rfl ?_
    refine Ch.oo rfl rfl rfl (ok_extract rfl (vl rfl) rfl) ?_
    refine Ch.oo rfl rfl rfl (ok_extract rfl (vl rfl) rfl) ?_
    refine Ch.as rfl rfl rfl rfl rfl ?_
    refine Ch.as rfl rfl rfl rfl rfl ?_
    refine Ch.nil (Fin.go ?_)
    refine Tr.w9 0 1 2 3 8 9 10 11 12 rfl rfl rfl rfl rfl rfl rfl rfl rfl ?_
    refine Tr.seq (Tr.seq (Tr.reg0 ?_))
    refine Ch.mv rfl rfl rfl rfl rfl ?_
    refine Ch.oo rfl rfl rfl (ok_int rfl (vl rfl) (vl rfl) rfl) ?_
    refine Ch.nil (Fin.go ?_)
    refine Tr.cn rfl (fun h4 q4 => ?_) (fun h4 q4 => ?_)
    ·
     exfalso; simp at h4
    ·
     refine Tr.skip (Fin.go (Tr.seq (Tr.seq (Tr.reg0 ?_))))
     refine Ch.mv rfl rfl rfl rfl rfl ?_
     refine Ch.mv rfl rfl rfl rfl rfl ?_
     refine Ch.cs 62 rfl (fun h5 q5 => ?_) (fun h5 q5 => ?_)
     ·
      refine Ch.ym h5 rfl rfl rfl rfl rfl rfl rfl ?_
      refine Ch.oo rfl rfl rfl (ok_pick_t rfl (vl rfl) h5 (vl rfl)) ?_
      refine Ch.mv rfl rfl rfl rfl rfl ?_
      refine Ch.cs 65 rfl (fun h6 q6 => ?_) (fun h6 q6 => ?_)
      ·
       refine Ch.ym h6 rfl rfl rfl rfl rfl rfl rfl ?_
       refine Ch.y h6 rfl rfl rfl rfl rfl (ok_int rfl (vl rfl) (vl rfl) rfl) ?_
       refine Ch.oo rfl rfl rfl (ok_pick_t rfl (vl rfl) h6 (vl rfl)) ?_
       refine Ch.nil (Fin.go ?_)
       refine Tr.w9 0 1 2 3 8 9 10 11 68 rfl rfl rfl rfl rfl rfl rfl rfl rfl ?_
       refine Tr.cn rfl (fun h7 q7 => ?_) (fun h7 q7 => ?_)
       ·
        refine Tr.seq (Tr.reg0 ?_)
        iterate 3 refine Ch.mv rfl rfl rfl rfl rfl ?_
        refine Ch.oo rfl rfl rfl (ok_call rfl (w_partAsc (by assumption) (by omega) (by omega) (by omega) (by omega)) ⟨ke rfl, ke rfl, ke rfl, trivial⟩) ?_
        refine Ch.nil (Fin.go ?_)
        refine Tr.cn rfl (fun h8 q8 => ?_) (fun h8 q8 => ?_)
        ·
         refine Tr.ret ?_
         refine Fin.then_ret ?_
         refine Fin.block_ret ?_
         refine Fin.then_ret ?_
         refine Fin.block_ret ?_
         exact Fin.ret0r rfl
        ·
         exfalso; simp at h8
       ·
        exfalso; simp at h7
      ·
       exfalso; simp at h6
     ·
      exfalso; simp at h5
set_option maxRecDepth 20000 in
theorem w_SortAsc24 {l : List Int} (hl : Asc l) (hs : 13 ≤ l.length) (hs2 : l.length < 50) : Fun Tryz.prog 61 [ints l] (unit_) := by
 refine Fun.of Tryz.func61 rfl rfl (by exact Nat.le_of_ble_eq_true rfl) fun M0 w0 => ?_
 have hw : IntKind.u64.wrap ((l.length : Nat) : Int) = l.length := IntWalk.u64_in _ ⟨by omega, by omega⟩
 refine Tr.seq (Tr.reg0 ?_)
 refine Ch.mv rfl rfl rfl rfl rfl ?_
 first
  | refine Ch.oo rfl rfl rfl (ok_lenm rfl Tryz.underlying22 (vl rfl)) ?_
  | refine Ch.oo rfl rfl rfl (ok_len rfl Tryz.underlying22 (vl rfl)) ?_
 refine Ch.as rfl rfl rfl rfl rfl ?_
 refine Ch.nil (Fin.go (Tr.reg0 ?_))
 iterate 3 refine Ch.mv rfl rfl rfl rfl rfl ?_
 first
  | refine Ch.oo rfl rfl rfl (ok_convI rfl Tryz.underlying3 Tryz.underlying105 (vl rfl) (by unfold InI; omega)) ?_
  | refine Ch.oo rfl rfl rfl (ok_conv rfl Tryz.underlying3 Tryz.underlying105 (vl rfl)) ?_
 refine Ch.oo rfl rfl rfl (ok_call rfl (w_BLenp (by omega) (by omega)) ⟨ke rfl, trivial⟩) ?_
 refine Ch.oo rfl rfl rfl (ok_call rfl (w_pdqAsc24 (l := l) (a := 0) (b := (l.length : Int)) hl (by omega) (by omega) (by omega) (by omega) (by omega)) ⟨ke rfl, ke rfl, ke rfl, ke rfl, trivial⟩) ?_
 refine Ch.nil ?_
 exact Fin.ret0 rfl
theorem w_SortAll {l : List Int} (hl : Asc l) (hs : l.length < 50) : Fun Tryz.prog 61 [ints l] unit_ := by
  by_cases h : l.length ≤ 12
  · exact w_SortAsc hl h
  · exact w_SortAsc24 hl (by omega) hs

set_option maxRecDepth 20000 in
theorem w_indices48 {l : List Fnd} {n : Int} {own : List Int} (ha : Asc own) (hs : own.length < 50) : Fun Tryz.prog 35 [fnds l, entP n own] (tup [ints own, bool (decide (InR own l.length))]) := by
 refine Fun.of Tryz.func35 rfl rfl (by exact Nat.le_of_ble_eq_true rfl) fun M0 w0 => ?_
 refine Tr.lenm 0 rfl fun hlm_0 => ?_
 refine Tr.seq (Tr.reg0 ?_)
 refine Ch.oo rfl rfl rfl (ok_box rfl (VL.le (vl rfl) (agg_cellsP _))) ?_
 refine Ch.as rfl rfl rfl rfl rfl ?_
 refine Ch.as rfl rfl rfl rfl rfl ?_
 refine Ch.nil (Fin.go (Tr.seq (Tr.reg0 ?_)))
 refine Ch.oo rfl rfl rfl (ok_fieldAddr rfl fo35_3 (vl rfl) rfl) ?_
 refine Ch.oo rfl rfl rfl (ok_load1 rfl one22 (vl rfl)) ?_
 refine Ch.oo rfl rfl rfl (ok_call rfl (w_CloneP (by omega)) ⟨ke rfl, trivial⟩) ?_
 refine Ch.as rfl rfl rfl rfl rfl ?_
 refine Ch.nil (Fin.go (Tr.seq (Tr.reg0 ?_)))
 refine Ch.mv rfl rfl rfl rfl rfl ?_
 refine Ch.oo rfl rfl rfl (ok_call rfl (w_SortAll (by assumption) (by omega)) ⟨ke rfl, trivial⟩) ?_
 refine Ch.nil (Fin.go (Tr.seq (Tr.reg0 ?_)))
 refine Ch.mv rfl rfl rfl rfl rfl ?_
 refine Ch.oo rfl rfl rfl (ok_call rfl (w_CompAscI (by assumption) (by omega)) ⟨ke rfl, trivial⟩) ?_
 refine Ch.as rfl rfl rfl rfl rfl ?_
 refine Ch.nil (Fin.go (Tr.seq ?_))
 refine Tr.reg1 mixed (by kernel_rfl) ?_
 refine Ch.mv rfl rfl rfl rfl rfl ?_
 refine Ch.mv rfl rfl rfl rfl rfl ?_
 first
  | refine Ch.oo rfl rfl rfl (ok_lenm rfl Tryz.underlying22 (vl rfl)) ?_
  | refine Ch.oo rfl rfl rfl (ok_len rfl Tryz.underlying22 (vl rfl)) ?_
 refine Ch.oo rfl rfl rfl (ok_int rfl (vl rfl) (vl rfl) rfl) ?_
 refine Ch.mv rfl rfl rfl rfl rfl ?_
 refine Ch.cs 18 rfl (fun h1 q1 => ?_) (fun h1 q1 => ?_)
 ·
  iterate 5 refine Ch.nf h1 rfl rfl rfl rfl rfl ?_
  iterate 9 refine Ch.u rfl rfl rfl rfl rfl ?_
  refine Ch.nf h1 rfl rfl rfl rfl rfl ?_
  refine Ch.oo rfl rfl rfl (ok_pick_t rfl (vl rfl) h1 (vl rfl)) ?_
  refine Ch.as rfl rfl rfl rfl rfl ?_
  refine Ch.as rfl rfl rfl rfl rfl ?_
  refine Ch.nil (Fin.go ?_)
  refine Tr.w2 4 5 rfl rfl ?_
  refine Tr.ret ?_
  refine Fin.ret2 rfl (OutW.bse _ _) rfl ?_ rfl ?_
  · first | exact Pr.le_refl _ | (refine int_eq ?_; simp_all; done) | (refine bool_eq ?_; simp_all; done) | (refine bool_eq ?_; simp_all; omega) | (refine int_eq ?_; omega)
  · refine bool_eq ?_; symm; rw [decide_eq_true_eq]; intro i hi; have hn : own = [] := List.eq_nil_of_length_eq_zero (by omega); rw [hn] at hi; cases hi
 ·
  have hpos : 0 < own.length := by omega
  obtain ⟨a, h0⟩ := at_ (l := own) (k := 0) hpos
  obtain ⟨z, hz⟩ := at_ (l := own) (k := own.length - 1) (by omega)
  have hiff := inR_iff ha (m := l.length) h0 hz
  refine Ch.ym h1 rfl rfl rfl rfl rfl rfl rfl ?_
  refine Ch.y h1 rfl rfl rfl rfl rfl (ok_indexAddr rfl Tryz.underlying22 sz3 (vl rfl) (vl rfl) (by omega) (row_at (k := 0) h0)) ?_
  refine Ch.y h1 rfl rfl rfl rfl rfl (ok_load1 rfl one3 (vl rfl)) ?_
  refine Ch.y h1 rfl rfl rfl rfl rfl (ok_int rfl (vl rfl) (vl rfl) rfl) ?_
  refine Ch.ym h1 rfl rfl rfl rfl rfl rfl rfl ?_
  refine Ch.cs 23 rfl (fun h2 q2 => ?_) (fun h2 q2 => ?_)
  ·
   refine Ch.ym h2 rfl rfl rfl rfl rfl rfl rfl ?_
   refine Ch.ym h2 rfl rfl rfl rfl rfl rfl rfl ?_
   first
    | refine Ch.y h2 rfl rfl rfl rfl rfl (ok_lenm rfl Tryz.underlying22 (vl rfl)) ?_
    | refine Ch.y h2 rfl rfl rfl rfl rfl (ok_len rfl Tryz.underlying22 (vl rfl)) ?_
   first
    | (refine Ch.y h2 rfl rfl rfl rfl rfl (ok_sub rfl (vl rfl) (vl rfl) ?hin) ?_; case hin => unfold InI; omega)
    | refine Ch.y h2 rfl rfl rfl rfl rfl (ok_int rfl (vl rfl) (vl rfl) rfl) ?_
   refine Ch.y h2 rfl rfl rfl rfl rfl (ok_indexAddr rfl Tryz.underlying22 sz3 (vl rfl) (vl rfl) (by omega) (last_int hpos hz)) ?_
   refine Ch.y h2 rfl rfl rfl rfl rfl (ok_load1 rfl one3 (vl rfl)) ?_
   refine Ch.ym h2 rfl rfl rfl rfl rfl rfl rfl ?_
   first
    | refine Ch.y h2 rfl rfl rfl rfl rfl (ok_lenm rfl Tryz.underlying27 (vl rfl)) ?_
    | refine Ch.y h2 rfl rfl rfl rfl rfl (ok_len rfl Tryz.underlying27 (vl rfl)) ?_
   refine Ch.y h2 rfl rfl rfl rfl rfl (ok_int rfl (vl rfl) (vl rfl) rfl) ?_
   refine Ch.y h1 rfl rfl rfl rfl rfl (ok_pick_t rfl (vl rfl) h2 (vl rfl)) ?_
   refine Ch.oo rfl rfl rfl (ok_pick_f rfl (vl rfl) h1 (vl rfl)) ?_
   refine Ch.as rfl rfl rfl rfl rfl ?_
   refine Ch.as rfl rfl rfl rfl rfl ?_
   refine Ch.nil (Fin.go ?_)
   refine Tr.w2 4 5 rfl rfl ?_
   refine Tr.ret ?_
   refine Fin.ret2 rfl (OutW.bse _ _) rfl ?_ rfl ?_
   · first | exact Pr.le_refl _ | (refine int_eq ?_; simp_all; done) | (refine bool_eq ?_; simp_all; done) | (refine bool_eq ?_; simp_all; omega) | (refine int_eq ?_; omega)
   · refine bool_eq ?_; rw [decide_eq_decide, hiff]; omega
  ·
   iterate 9 refine Ch.nt h2 rfl rfl rfl rfl rfl ?_
   refine Ch.y h1 rfl rfl rfl rfl rfl (ok_pick_f rfl (vl rfl) h2 (vl rfl)) ?_
   refine Ch.oo rfl rfl rfl (ok_pick_f rfl (vl rfl) h1 (vl rfl)) ?_
   refine Ch.as rfl rfl rfl rfl rfl ?_
   refine Ch.as rfl rfl rfl rfl rfl ?_
   refine Ch.nil (Fin.go ?_)
   refine Tr.w2 4 5 rfl rfl ?_
   refine Tr.ret ?_
   refine Fin.ret2 rfl (OutW.bse _ _) rfl ?_ rfl ?_
   · first | exact Pr.le_refl _ | (refine int_eq ?_; simp_all; done) | (refine bool_eq ?_; simp_all; done) | (refine bool_eq ?_; simp_all; omega) | (refine int_eq ?_; omega)
   · refine bool_eq ?_; symm; rw [decide_eq_false_iff_not, hiff]; omega
end Go.Proofs.YthmnoekgicggnaaGreat
namespace Cp
open Go Go.RowKit Go.Great

section
variable {P : Program} {n : Nat} {E : Env} {M0 : Av} {w0 : World} {S : Nat → Prop} {rs : List Res} {o : Oper} {g : Func} {M1 : Av} {w1 : World}
theorem Fin.opn {Q : Exit → Act → World → Prop} {x : Exit} (s j : Nat) {v : Value} {f : Value → Res} (g : Nat → Res) (hs : E.lookup s = some (andIs v (Cp.ex fun b => ptr b 0))) (hi : rs[j]? = some (f v)) (hf : ∀ b, f (.pointer (some ⟨b, 0, none⟩)) = g b)
    (k : ∀ b, Fin n ((s, ptr b 0) :: E) (Hp M0 w0 S (rs.set j (g b))) Q x) : Fin n E (Hp M0 w0 S rs) Q x := by
  intro a w hst
  obtain ⟨M, h1, h2, he, h4⟩ := hst
  obtain ⟨h5, b, h6⟩ := he s _ hs
  have hv : v = .pointer (some ⟨b, 0, none⟩) := by rw [← h5]; exact h6
  have hj : rs.set j (g b) = rs := by
    have hjl : j < rs.length := by rcases Nat.lt_or_ge j rs.length with h | h; exact h; rw [List.getElem?_eq_none h] at hi; cases hi
    rw [← hf b, ← hv]
    rw [List.getElem?_eq_getElem hjl] at hi
    simp at hi
    rw [← hi, List.set_getElem_self]
  refine k b a w ⟨M, h1, h2, ?_, by rw [hj]; exact h4⟩
  intro t q hq
  simp only [List.lookup] at hq
  by_cases ht : t = s
  · subst ht; simp at hq; subst hq; exact h6
  · rw [show (t == s) = false by simpa using ht] at hq; exact he t q hq
theorem cells_clearR {β : Type} {f : β → List Pr} {sz : Nat} (hf : ∀ x, (f x).length = sz) {z : List Pr} (hz : z.length = sz) {l : List β} {qs : List Pr} {i m : Nat} (hm : m = l.length - ((i : Nat) : Int).toNat) (h : i ≤ l.length) :
    ((l.map f).flatten ++ qs).take (((i : Nat) : Int).toNat * sz) ++ (List.replicate m z).flatten ++ ((l.map f).flatten ++ qs).drop (((i : Nat) : Int).toNat * sz + m * sz) = ((l.take i).map f).flatten ++ (List.replicate (l.length - i) z).flatten ++ qs := by
  rw [Int.toNat_natCast] at hm ⊢; subst hm
  have hl2 : ∀ r ∈ (l.take i).map f, r.length = sz := map_rows hf
  have e1 : i * sz + (l.length - i) * sz = ((l.map f).flatten).length := by rw [flat_len (map_rows hf), List.length_map, ← Nat.add_mul]; congr 1; omega
  have e2 : (l.map f).flatten = ((l.take i).map f).flatten ++ ((l.drop i).map f).flatten := by rw [← List.flatten_append, ← List.map_append, List.take_append_drop]
  have e3 : (((l.take i).map f).flatten).length = i * sz := by rw [flat_len hl2, List.length_map, List.length_take]; congr 1; omega
  rw [e1, List.drop_left]
  congr 2
  rw [e2, List.append_assoc, ← e3, List.take_left]
end
end Cp
namespace Go.Proofs.YthmnoekgicggnaaGreat
open Go Go.RowKit Cp

end Go.Proofs.YthmnoekgicggnaaGreat
namespace Go.Proofs.YthmnoekgicggnaaGreat
open Go Go.RowKit Cp

def numsTo (m : Nat) : List Int := (List.range m).map fun k => ((k : Nat) : Int)
theorem numsTo_succ (m : Nat) : ((numsTo m).map fun n => [int n]) ++ [[int ((m : Nat) : Int)]] = (numsTo (m + 1)).map fun n => [int n] := by
  unfold numsTo; rw [List.range_succ, List.map_append, List.map_append]; rfl
theorem numsTo_len (m : Nat) : (numsTo m).length = m := by simp [numsTo]

set_option maxRecDepth 20000 in
theorem w_entity {l : List Fnd} (hl : l.length ≤ 1000) : Fun Tryz.prog 13 [fnds l] (entP 0 (numsTo l.length)) := by
 refine Fun.of Tryz.func13 rfl rfl (by exact Nat.le_of_ble_eq_true rfl) fun M0 w0 => ?_
 refine Tr.seq (Tr.regT ?_)
 refine TO.alloc rfl rfl (by decide) rfl z35 zo35 (fun b1 => ?_)
 refine TO.nil (Fin.go (Tr.seq (Tr.regT ?_)))
 refine TO.alloc rfl rfl (by decide) rfl z35 zo35 (fun b2 => ?_)
 refine TO.nil (Fin.go (Tr.seq (Tr.seq (Tr.reg0 ?_))))
 refine Ch.as rfl rfl rfl rfl rfl ?_
 refine Ch.nil (Fin.go (Tr.block ?_))
 refine Tr.reC 0 [is (.int .i64 0), is (.slice none 0 0), is (.slice none 0 0), andIs (.slice none 0 0) (ints [])] rfl ⟨Pr.le_refl _, Pr.le_refl _, Pr.le_refl _, own_nil rfl, trivial⟩ ?_
 refine Tr.addnil 3 1 ?_
 refine Tr.loopD1V1 [(0, _), (2, _), (3, _)] ⟨ke rfl, ke rfl, ke rfl, trivial⟩ (fun (m : Nat) v => [(4, int ((m : Nat) : Int))]) (fun (m : Nat) v => Hp M0 w0 noS ([appRes 3 1 v, cellsRes true b2 35 [is (.int .i64 0), is (.slice none 0 0), is (.slice none 0 0), andIs v (ints (numsTo m))], cellsRes true b1 35 [is (.int .i64 0), is (.slice none 0 0), is (.slice none 0 0), is (.slice none 0 0)]])) (fun (m : Nat) => m ≤ l.length) (fun (m : Nat) => l.length - m) (0) (.slice none 0 0) (Nat.zero_le _) ⟨ke rfl, trivial⟩ (fun _ _ h => h) ?_
 rintro m v hml
 refine Tr.seq (Tr.seq (Tr.reg0 ?_))
 refine Ch.mv rfl rfl rfl rfl rfl ?_
 refine Ch.mv rfl rfl rfl rfl rfl ?_
 first
  | refine Ch.oo rfl rfl rfl (ok_lenm rfl Tryz.underlying27 (vl rfl)) ?_
  | refine Ch.oo rfl rfl rfl (ok_len rfl Tryz.underlying27 (vl rfl)) ?_
 refine Ch.oo rfl rfl rfl (ok_int rfl (vl rfl) (vl rfl) rfl) ?_
 refine Ch.nil (Fin.go ?_)
 refine Tr.cn rfl (fun h1 q1 => ?_) (fun h1 q1 => ?_)
 ·
  have hml2 : m < l.length := lt_of_dec h1
  have hnl := numsTo_len m
  refine Tr.skip (Fin.go (Tr.seq (Tr.block (Tr.regT ?_))))
  refine TO.oo rfl rfl rfl (okp_fieldAddr rfl fo35_3 (vl rfl)) ?_
  refine TO.rd 1 rfl rfl rfl (by decide) (rd_load1 rfl one22 (vl rfl) rfl) ?_
  refine TO.mv rfl rfl rfl rfl rfl ?_
  refine TO.oo rfl rfl rfl (ok_buildSlice (xs := [.tmp 13]) (rows := [[_]]) rfl rfl Tryz.underlying22 sz3 z3 rfl (by decide) ⟨⟨(by exact rfl), (VL.le (vl rfl) (one_cellsP _))⟩, trivial⟩ (by decide)) ?_
  refine TO.efs 0 rfl rfl (by decide) (ef_append rfl rfl (by decide) rfl Tryz.underlying22 sz3 by3 z3 rfl (by decide) ⟨_, rfl, andIs_le _ _⟩ ⟨_, rfl, full_le _ _⟩ (by simp only [List.length_map, List.length_append, List.length_cons, List.length_nil]; unfold maxLen; omega) (by simp only [List.length_map, List.length_append, List.length_cons, List.length_nil]; omega) (appR_is (by exact List.Mem.head _) ⟨_, rfl, andIs_is _ _⟩)) (fun v1 => ?_)
  refine TO.oo rfl rfl rfl (okp_fieldAddr rfl fo35_3 (vl rfl)) ?_
  refine TO.ef0 1 rfl rfl (ef_store rfl rfl (vl rfl) (VL.le (vl rfl) (one_cellsP _)) sz22 rfl (by exact Nat.le_of_ble_eq_true rfl) rfl) ?_
  refine TO.nil (Fin.block (Fin.go ?_))
  refine Tr.w4 0 2 3 4 rfl rfl rfl rfl ?_
  refine Tr.reg0 ?_
  refine Ch.mv rfl rfl rfl rfl rfl ?_
  first
   | (refine Ch.oo rfl rfl rfl (ok_add rfl (vl rfl) (vl rfl) ?hin) ?_; case hin => unfold InI; omega)
   | refine Ch.oo rfl rfl rfl (ok_int rfl (vl rfl) (vl rfl) rfl) ?_
  refine Ch.as rfl rfl rfl rfl rfl ?_
  refine Ch.nil ?_
  refine Fin.reC 1 [is (.int .i64 0), is (.slice none 0 0), is (.slice none 0 0), andIs v1 (ints (numsTo (m + 1)))] rfl ⟨Pr.le_refl _, Pr.le_refl _, Pr.le_refl _, own_le (numsTo_succ m), trivial⟩ ?_
  exact Fin.famD1V1 (m + 1) v1 (⟨by omega, by omega⟩) ⟨⟨_, rfl, int_succ m⟩, ke rfl, ke rfl, ke rfl, trivial⟩ (fun _ _ h => h)
 ·
  have hme : m = l.length := by have := ge_of_dec h1; omega
  subst hme
  refine Tr.exit ?_
  refine Fin.then_exit ?_
  refine Fin.then_exit ?_
  refine Fin.block_here ?_
  refine Fin.go (Tr.seq (Tr.regT ?_))
  refine TO.rd 1 rfl rfl rfl (by decide) (rd_loadA rfl agg35 sz35 (vl rfl) rfl rfl) ?_
  refine TO.store_all 2 rfl rfl rfl (vl rfl) (VL.le (vl rfl) (agg_cellsP _)) rfl sz35 rfl rfl ?_
  refine TO.nil (Fin.go (Tr.ret ?_))
  refine Fin.retX1 rfl (RVal.cell 2 rfl rfl agg35 sz35 rfl (Pr.le_refl _)) ?_
  · exact agg_le ⟨Pr.le_refl _, le_any _, le_any _, andIs_le _ _, trivial⟩
end Go.Proofs.YthmnoekgicggnaaGreat
namespace Go.Proofs.YthmnoekgicggnaaGreat
open Go Go.RowKit Cp

theorem numsTo_at {n k : Nat} {x : Int} (h : (numsTo n)[k]? = some x) : x = k := by
  unfold numsTo at h
  rw [List.getElem?_map] at h
  cases hk : (List.range n)[k]? with
  | none => rw [hk] at h; cases h
  | some y =>
    rw [hk] at h
    have hlt := lt_of_at hk
    rw [List.length_range] at hlt
    rw [List.getElem?_range hlt] at hk
    simp at h hk; omega
theorem numsTo_asc (n : Nat) : Asc (numsTo n) := by
  intro j x y hx hy
  have h1 := numsTo_at hx
  have h2 := numsTo_at hy
  omega
end Go.Proofs.YthmnoekgicggnaaGreat
namespace Cp
open Go Go.RowKit Go.Great

section
variable {P : Program} {n : Nat} {E : Env} {M0 : Av} {w0 : World} {S : Nat → Prop} {rs : List Res} {o : Oper}

/-- A slice of ours: nil, or its elements and what lies behind them. -/
def ownRes (e : TypeId) (sz : Nat) (rows : List (List Pr)) (v : Value) : Res where
  blk := match v with | .slice (some a) _ _ => some a.block | _ => none
  new := true
  h M w := (rows = [] ∧ v = .slice none 0 0) ∨ (mutRes e sz rows v).h M w
  st M w M' w' he hk h := h.imp id fun h => (mutRes e sz rows v).st M w M' w' he hk h
theorem Tr.addown {Q : Exit → Act → World → Prop} {c : Code} (e : TypeId) (sz : Nat) (k : Tr P n E (Hp M0 w0 S (ownRes e sz [] (.slice none 0 0) :: rs)) c Q) : Tr P n E (Hp M0 w0 S rs) c Q :=
  Tr.conv (fun _ _ ⟨M, h1, h2, h3, h4⟩ => ⟨M, h1, h2, h3, HpH.add0 h4 (r := ownRes e sz [] (.slice none 0 0)) rfl (Or.inl ⟨rfl, rfl⟩)⟩) k

theorem app_mut {M : Av} {w : World} {t ty e : TypeId} {sz bytes : Nat} {zs : List Value} {rows rows' : List (List Pr)} {v u : Value} {j : Nat} (ht : P.underlying t = some (.slice e)) (hz : sizeB P e = some sz) (hby : bytesB P e = some bytes) (hze : zeroB P e = some zs) (hzl : zs.length = sz) (hone : zs.all (·.oneCell') = true) (hsz : 0 < sz)
    (h : HpH M0 w0 S rs M w) (hj : rs[j]? = some (ownRes e sz rows v)) (hl : ∀ r ∈ rows, r.length = sz) (hu : (slice sz rows').h M w u) (hpos : 0 < rows'.length) (hmax : rows.length + rows'.length ≤ maxLen) (hfit : (rows.length + rows'.length) * bytes ≤ 140737488355328) :
    ∃ v' w' M', (Builtin.append_ #[t, t] ty #[v, u]).run P w = .ok v' w' ∧ (lens (rows.length + rows'.length)).h M' w' v' ∧ Ext M w M' w' ∧ HpH M0 w0 S (rs.set j (ownRes e sz (rows ++ rows') v')) M' w' := by
  have hjl : j < rs.length := by rcases Nat.lt_or_ge j rs.length with h | h; exact h; rw [List.getElem?_eq_none h] at hj; cases hj
  rcases (h.hold _ (List.mem_of_getElem? hj)).1 with ⟨rfl, rfl⟩ | hmut
  · have h1 := h.swap1 (r' := noRes) hj rfl rfl trivial
    have hj1 : (rs.set j noRes)[j]? = some noRes := List.getElem?_set_self hjl
    obtain ⟨v', w', M', hrun, h2, h3, h4⟩ := app_new (ty := ty) ht hz hby hze hzl hone hsz h1 hj1 hu hpos (by simpa using hmax) (by simpa using hfit)
    rw [List.set_set] at h4
    have h5 := h4.swap1 (r' := ownRes e sz ([] ++ rows') v') (List.getElem?_set_self hjl) rfl rfl (.inr (h4.hold _ (List.mem_of_getElem? (List.getElem?_set_self hjl))).1)
    rw [List.set_set] at h5
    exact ⟨v', w', M', hrun, by simpa using h2, h3, h5⟩
  · obtain ⟨b, cap, spare, rfl, hnc, hcm, hsp, hcr⟩ := hmut
    have hC := h.swap1 (r' := cellsRes true b e (rows.flatten ++ spare.map is)) hj rfl rfl hcr
    have hjC : (rs.set j (cellsRes true b e (rows.flatten ++ spare.map is)))[j]? = some (cellsRes true b e (rows.flatten ++ spare.map is)) := List.getElem?_set_self hjl
    obtain ⟨⟨hMb, cs, hheap, hcs, hone'⟩, hbb⟩ := hC.hold _ (List.mem_of_getElem? hjC)
    have hfl := flat_len hl
    have hcl := hcs.length
    rw [List.length_append, hfl, List.length_map, hsp, ← Nat.add_mul, show rows.length + (cap - rows.length) = cap by omega] at hcl
    unfold sizeB at hz
    unfold bytesB at hby
    unfold zeroB at hze
    cases hi : P.info? e with
    | none => rw [hi] at hz; cases hz
    | some i =>
      rw [hi] at hz hby hze
      simp only [Option.map_some, Option.some.injEq, Option.map_eq_some_iff] at hz hby hze
      obtain ⟨z, hzz, hze⟩ := hze
      have hzc : z.cells.size = sz := by rw [← hzl, ← hze]; simp
      obtain ⟨A', c', rfl, hmc, hcm', hA', hrows'⟩ := hu
      have hu0 : (slice sz rows').h M w (.slice A' rows'.length c') := ⟨A', c', rfl, hmc, hcm', hA', hrows'⟩
      obtain ⟨ad', rfl⟩ : ∃ ad', A' = some ad' := by
        obtain ⟨_, b, hb, _⟩ := hrows' 0 _ (List.getElem?_eq_getElem hpos)
        exact ⟨b, hb⟩
      obtain ⟨news, hflat, hcell⟩ := slice_flat hsz hu0
      have hnl := hflat.1
      have hnews := hflat.hl hsz
      have hT : HL M w rows.flatten (cs.take (rows.length * sz)) := by
        have := hcs.take (rows.length * sz)
        rwa [← hfl, List.take_left, hfl] at this
      have hne : (.slice (some ⟨b, 0, none⟩) (rows ++ rows').length cap : Value) = .slice (some ⟨b, 0, none⟩) (rows.length + rows'.length) cap := by rw [List.length_append]
      by_cases hroom : rows.length + rows'.length ≤ cap
      · have hle : (rows.length + rows'.length) * sz ≤ cap * sz := Nat.mul_le_mul_right sz hroom
        rw [Nat.add_mul] at hle
        have hrun := run_append_room (P := P) (w := w) t ty e i ht hi b rows.length cap cs.toArray hheap ad' rows'.length c' news (by rw [hz]; exact hnl) (fun k u hk => (hcell k u hk).1) hflat.2.1 hroom (by rw [hz, hnl]; simp; omega)
        rw [hz, hnl] at hrun
        have hD : HL M w ((spare.drop (rows'.length * sz)).map is) (cs.drop (rows.length * sz + rows'.length * sz)) := by
          have := hcs.drop (rows.length * sz + rows'.length * sz)
          have e1 : (rows.flatten ++ spare.map is).drop (rows.length * sz + rows'.length * sz) = (spare.drop (rows'.length * sz)).map is := by rw [← hfl, ← List.drop_drop, List.drop_left, List.map_drop]
          rwa [e1] at this
        obtain ⟨hW, hX⟩ := HpH.write (qs := rows.flatten ++ rows'.flatten ++ (spare.drop (rows'.length * sz)).map is) (cs := cs.take (rows.length * sz) ++ news ++ cs.drop (rows.length * sz + rows'.length * sz)) hC hjC ((hT.app hnews).app hD) (fun c hc => by
          simp only [List.mem_append] at hc
          rcases hc with (hc | hc) | hc
          · exact hone' c (List.mem_of_mem_take hc)
          · exact hflat.2.1 c hc
          · exact hone' c (List.mem_of_mem_drop hc))
        rw [List.set_set] at hW
        refine ⟨_, _, M, hrun, ⟨_, _, rfl⟩, hX, ?_⟩
        have hW2 := hW.swap1 (r' := ownRes e sz (rows ++ rows') (.slice (some ⟨b, 0, none⟩) (rows.length + rows'.length) cap)) (List.getElem?_set_self hjl) rfl rfl (.inr ⟨b, cap, spare.drop (rows'.length * sz), hne.symm, by rw [List.length_append]; exact hroom, hcm, by
          rw [List.length_drop, hsp, List.length_append, ← Nat.sub_mul]; congr 1; omega, by
          rw [List.flatten_append]; exact (hW.hold _ (List.mem_of_getElem? (List.getElem?_set_self hjl))).1⟩)
        rw [List.set_set] at hW2
        exact hW2
      · have hg : cap < rows.length + rows'.length := by omega
        have holds : ∀ k u, (cs.take (rows.length * sz))[k]? = some u → w.cell? ((⟨b, 0, none⟩ : Addr).add k) = some u := by
          intro k u hk
          have hk2 : cs[k]? = some u := by
            rw [List.getElem?_take] at hk
            split at hk
            · exact hk
            · cases hk
          rw [addr_add]
          simp [World.cell?, hheap, hk2]
        have hto : (cs.take (rows.length * sz)).length = rows.length * sz := by rw [List.length_take, hcl]; exact Nat.min_eq_left (Nat.mul_le_mul_right sz hnc)
        have hrun := run_append_grow (P := P) (w := w) t ty e i z ht hi hzz ⟨b, 0, none⟩ rows.length cap (cs.take (rows.length * sz)) (by rw [hz]; exact hto) holds ad' rows'.length c' news (by rw [hz]; exact hnl) (fun k u hk => (hcell k u hk).1) hg (by unfold maxLen at hmax; omega) (by rw [hby]; exact growslice_fits hg hfit)
        generalize hcap : grownCap w (rows.length + rows'.length) cap e = cap' at hrun
        have hge : rows.length + rows'.length ≤ cap' := by rw [← hcap]; exact grownCap_ge _ _ _ _
        have hle : cap' ≤ maxLen := by rw [← hcap]; exact grownCap_le_maxLen _ _ _ _ hmax
        generalize hzc' : Builtin.zeroCells z.cells (cap' - (rows.length + rows'.length)) = zc at hrun
        have hzs : zc.size = (cap' - (rows.length + rows'.length)) * sz := by rw [← hzc', size_zeroCells, hzc]
        have hzo : ∀ c ∈ zc.toList, c.oneCell' = true := by rw [← hzc']; exact zeroCells_one hze hone
        generalize holdsN : ((cs.take (rows.length * sz)).toArray ++ news.toArray ++ zc) = arr at hrun
        have harr : arr.toList = cs.take (rows.length * sz) ++ news ++ zc.toList := by rw [← holdsN]; simp
        have hb : Below w.heap.size w (w.drew.alloc (.cells arr e)) := ((Below.refl _ _).drew).alloc (Nat.le_refl _) _
        have h2 := Ext.below (M := M) hb
        have hext : Ext M w (fun b o => M b o ∨ b = w.heap.size) (w.drew.alloc (.cells arr e)) := by
          refine ⟨h2.size, fun a v hc hm => ⟨fun hx => ?_, (h2.keep a v hc hm).2⟩, fun b o ho hp hm => ⟨fun hx => ?_, (h2.obj b o ho hp hm).2⟩⟩
          · rcases hx with hx | hx
            · exact hm hx
            · have := cell_lt hc; omega
          · rcases hx with hx | hx
            · exact hm hx
            · subst hx; simp at ho
        have hs1 : (w.drew.alloc (.cells arr e)).heap.size = w.heap.size + 1 := by simp
        refine ⟨_, _, fun b o => M b o ∨ b = w.heap.size, hrun, ⟨_, _, rfl⟩, hext, ?_⟩
        refine h.replace hj hext hb.os hb.tape hb.output (fun k hk _ => hb.block k hk) rfl (fun b o hm _ => .inl hm) (fun b o hx => ?_) ?_ rfl (fun b hbk => ?_)
        · rcases hx with hx | hx
          · have := h.bd _ _ hx; omega
          · omega
        · refine .inr ⟨w.heap.size, cap', zc.toList, by rw [List.length_append], by rw [List.length_append]; exact hge, hle, by rw [List.length_append]; simpa using hzs, fun o => .inr rfl, arr.toList, ?_, ?_, ?_⟩
          · have hh : (w.drew.alloc (.cells arr e)).heap[w.heap.size]? = some (.cells arr e (0, 0)) := heap_alloc_new w.drew _
            rw [hh]
          · rw [harr, List.flatten_append]; exact ((hT.st hext).app ((hflat.st hext).hl hsz)).app (hl_is _ _ _)
          · intro c hc
            rw [harr] at hc
            simp only [List.mem_append] at hc
            rcases hc with (hc | hc) | hc
            · exact hone' c (List.mem_of_mem_take hc)
            · exact hflat.2.1 c hc
            · exact hzo c hc
        · have hbk' : some w.heap.size = some b := hbk
          injection hbk' with e1
          subst e1
          exact ⟨by rw [hs1]; omega, .inr (Nat.le_refl _)⟩
theorem ef_appmut {t e : TypeId} {x y : Operand} {sz bytes d : Nat} {zs : List Value} {rows rows' : List (List Pr)} {v : Value} {p : Pr} {j : Nat} (hg : o.guard = none) (hd : o.dst = some d) (hn : d < n) (ho : o.op = .call { callee := .builtin .append, args := #[x, y], argTypes := #[t, t] })
    (ht : P.underlying t = some (.slice e)) (hz : sizeB P e = some sz) (hby : bytesB P e = some bytes) (hze : zeroB P e = some zs) (hzl : zs.length = sz) (hone : zs.all (·.oneCell') = true) (hsz : 0 < sz)
    (hx : VL E x (andIs v p)) (hy : VL E y (slice sz rows')) (hl : ∀ r ∈ rows, r.length = sz) (hpos : 0 < rows'.length) (hmax : rows.length + rows'.length ≤ maxLen) (hfit : (rows.length + rows'.length) * bytes ≤ 140737488355328) : OpEf P M0 w0 S n j (SR.c (ownRes e sz rows v)) ⟨d, ownRes e sz (rows ++ rows')⟩ o E (lens (rows.length + rows'.length)) := by
  refine ⟨hg, fun M w a rs hszn he hI hj => ?_⟩
  have h1 : a.eval x = v := (hx.ev he (by simp [ho, Op.operands, Call.operands])).1
  have h2 := hy.ev he (by simp [ho, Op.operands, Call.operands])
  obtain ⟨v', w', M', hrun, h3, h4, h5⟩ := app_mut (ty := o.type) ht hz hby hze hzl hone hsz hI hj hl h2 hpos hmax hfit
  have hrun2 : (execOp a.eval o).run P w = .ok (.value v') w' := by simp [execOp, ho, resolve, invoke, builtin, h1, hrun]
  rw [hrun2]
  refine ⟨M', h3, h4, ?_⟩
  have : (SR.at_ (a.put o.dst v') ⟨d, ownRes e sz (rows ++ rows')⟩) = ownRes e sz (rows ++ rows') v' := by unfold SR.at_; rw [hd, put_same (by rw [hszn]; exact hn)]
  rw [this]; exact h5

theorem HpH.frzO {M : Av} {w : World} {sz : Nat} {e : TypeId} {rows : List (List Pr)} {v : Value} {j : Nat} (h : HpH M0 w0 S rs M w) (hj : rs[j]? = some (ownRes e sz rows v)) (hl : ∀ r ∈ rows, r.length = sz) :
    ∃ M', Ext M w M' w ∧ HpH M0 w0 S (rs.set j (appRes e sz v)) M' w ∧ (slice sz rows).h M' w v := by
  have hjl : j < rs.length := by rcases Nat.lt_or_ge j rs.length with h | h; exact h; rw [List.getElem?_eq_none h] at hj; cases hj
  rcases (h.hold _ (List.mem_of_getElem? hj)).1 with ⟨rfl, rfl⟩ | hmut
  · exact ⟨M, Ext.refl _ _, h.swap1 hj rfl rfl (by intro a n c hv; cases hv), nil_slice sz M w _ rfl⟩
  · obtain ⟨b, cap, spare, rfl, hnc, hcm, hsp, hcr⟩ := hmut
    have hC := h.swap1 (r' := cellsRes true b e (rows.flatten ++ spare.map is)) hj rfl rfl hcr
    obtain ⟨M', h1, h2, h3⟩ := HpH.frz hC (List.getElem?_set_self hjl) hl hnc hcm (by rw [List.length_map]; exact hsp)
    rw [List.set_set] at h2
    exact ⟨M', h1, h2, h3⟩

end

section
variable {P : Program} {n : Nat} {E : Env} {M0 : Av} {w0 : World} {S : Nat → Prop} {rs : List Res} {o : Oper} {ops : Array Oper} {r : List Oper}
def FunR (P : Program) (f : FuncId) (args : List Pr) (res : Pr) (r : Res) (r' : Res) (r2 : Res) : Prop := Entry P f ∧ ∀ M0 w0 S rs M w vs, HpH M0 w0 S (r :: r2 :: rs) M w → HL M w args vs →
  Calls P f vs.toArray w fun e w' => ∃ v M', e = .returned v ∧ res.h M' w' v ∧ Ext M w M' w' ∧ HpH M0 w0 S (r' :: r2 :: rs) M' w'
theorem FunR.of {f : FuncId} {g : Func} {c : Code} {ps : List Pr} {res : Pr} {R R' R2 : Res} (hf : P.funcs[f]? = some g) (hb : g.body = some c) (hname : (g.name == "runtime.NumGoroutine") = false) (hlen : ps.length ≤ g.ntmps)
    (h : ∀ M0 w0 S rs M1 w1, Tr P g.ntmps (penv 0 ps) (Hp M0 w0 S (R :: extRes M1 w1 :: R2 :: rs)) c (bodyPost P g (BackM M0 w0 S (R2 :: rs) M1 w1 res (fun _ => R')))) : FunR P f ps res R R' R2 := by
  refine ⟨⟨g, hf, hname, by rw [hb]; rfl⟩, fun M0 w0 S rs M w vs hI hv => ?_⟩
  refine calls_of_wp hf hb (h M0 w0 S rs M w _ _ ⟨M, ?_, rfl, enter_env hv, ?_⟩)
  · have := hv.length
    simp [this]; omega
  · exact HpH.perm (List.Perm.swap _ _ _) (HpH.add0 hI (r := extRes M w) rfl (Ext.refl _ _))
theorem TO.callR {Q : Exit → Act → World → Prop} {f : FuncId} {xs : Array Operand} {ts : Array TypeId} {ps : List Pr} {res : Pr} (j i : Nat) {d : Nat} {R0 R1 R2 : Res} (hj : rs[j]? = some R0) (hi : rs[i]? = some R2) (hij : i ≠ j) (hg : o.guard = none) (hd : o.dst = some d) (hn : d < n) (ho : o.op = .call { callee := .value (.func f), args := xs, argTypes := ts }) (hf : FunR P f ps res R0 R1 R2)
    (hv : Vals E xs.toList ps) (k : TO P n ops r ((d, res) :: E) (Hp M0 w0 S (rs.set j R1)) Q) : TO P n ops (o :: r) E (Hp M0 w0 S rs) Q :=
  TO.eff hg fun K M w a hsz hdf he hI hK => by
    have hI : HpH M0 w0 S rs M w := hI
    have h1 := Vals.evalFor (o := o) (looks_env he) (xs := xs.toList) (fun x hx => by simp [ho, Op.operands, Call.operands]; exact .inr (by simpa using hx)) hv
    have hjl : j < rs.length := by rcases Nat.lt_or_ge j rs.length with h | h; exact h; rw [List.getElem?_eq_none h] at hj; cases hj
    obtain ⟨m, hm⟩ : ∃ m, (rs.eraseIdx j)[m]? = some R2 := by
      by_cases hlt : i < j
      · exact ⟨i, by rw [List.getElem?_eraseIdx, if_pos hlt]; exact hi⟩
      · exact ⟨i - 1, by rw [List.getElem?_eraseIdx, if_neg (by omega), show i - 1 + 1 = i by omega]; exact hi⟩
    have hp : rs.Perm (R0 :: R2 :: (rs.eraseIdx j).eraseIdx m) := (perm_at hj).trans ((perm_at hm).cons _)
    have hp' : (R1 :: R2 :: (rs.eraseIdx j).eraseIdx m).Perm (rs.set j R1) := ((perm_at hm).symm.cons _).trans (perm_set hjl)
    have hgv : GivesR P M0 w0 S o a M w res j (SR.c R1) rs ((execOp a.eval o).run P w) := by
      have hrun : (execOp a.eval o).run P w = .ok (.enter f (xs.toList.map a.eval).toArray) w := by
        simp [execOp, ho, resolve, Deferred.ofValue, Act.eval, invoke, run_callFunc hf.1, map_list xs]
      rw [hrun]
      refine (hf.2 M0 w0 S _ M w _ (HpH.perm hp hI) h1).mono ?_
      rintro e w' ⟨v, M', rfl, h2, h3, h4⟩
      exact ⟨v, M', rfl, h2, h3, HpH.perm hp' h4⟩
    refine step_ef hgv fun v w' M' hv hx hI' => hK _ _ _ _ k ⟨M', by rw [put_size]; exact hsz, by rw [put_defers]; exact hdf, ?_, hI'⟩
    intro s q hq
    simp only [List.lookup] at hq
    by_cases hs : s = d
    · subst hs; simp at hq; subst hq; rw [hd, put_same (by rw [hsz]; exact hn)]; exact hv
    · rw [show (s == d) = false by simpa using hs] at hq; rw [hd, put_other hs]; exact q.st _ _ _ _ _ hx (he s q hq)
end
end Cp
namespace Cp
open Go Go.RowKit Go.Great

abbrev anyK (k : IntKind) : Pr := Cp.ex fun i : Int => is (.int k i)
theorem is_anyK (k : IntKind) (i : Int) : Pr.le (is (.int k i)) (anyK k) := fun _ _ _ h => ⟨i, h⟩
section
variable {P : Program} {I : Asn} {o : Oper} {E : Env}
theorem ok_bits {op : BinOp} {t u : TypeId} {x y : Operand} {k : IntKind} (hop : (op == .xor || op == .or) = true) (ho : o.op = .binOp op t x y u) (hx : VL E x (anyK k)) (hy : VL E y (anyK k)) : OpOK P I o E (anyK k) :=
  OpOK.same fun M w a he _ => by
    obtain ⟨m, h1⟩ := hx.ev he (by simp [ho, Op.operands])
    obtain ⟨n, h2⟩ := hy.ev he (by simp [ho, Op.operands])
    have h1 : a.eval x = .int k m := h1
    have h2 : a.eval y = .int k n := h2
    cases op <;> simp at hop <;> exact ⟨_, by simp [execOp, ho, h1, h2, eqGuard, binOp, Op.intBits]; rfl, _, rfl⟩
theorem ok_shK {op : BinOp} {t u : TypeId} {x y : Operand} {k k' : IntKind} {c : Int} (hop : (op == .shl || op == .shr) = true) (ho : o.op = .binOp op t x y u) (hx : VL E x (anyK k)) (hy : VL E y (is (.int k' c))) (hc : 0 ≤ c) : OpOK P I o E (anyK k) :=
  OpOK.same fun M w a he _ => by
    obtain ⟨m, h1⟩ := hx.ev he (by simp [ho, Op.operands])
    have h1 : a.eval x = .int k m := h1
    have h2 : a.eval y = .int k' c := hy.ev he (by simp [ho, Op.operands])
    have hn : ¬ c < 0 := by omega
    cases op <;> simp at hop <;> exact ⟨_, by simp [execOp, ho, h1, h2, eqGuard, binOp, Op.shift, hn]; rfl, _, rfl⟩
theorem ok_addK {t u : TypeId} {x y : Operand} {k : IntKind} (ho : o.op = .binOp .add t x y u) (hx : VL E x (anyK k)) (hy : VL E y (anyK k)) : OpOK P I o E (anyK k) :=
  OpOK.same fun M w a he _ => by
    obtain ⟨m, h1⟩ := hx.ev he (by simp [ho, Op.operands])
    obtain ⟨n, h2⟩ := hy.ev he (by simp [ho, Op.operands])
    have h1 : a.eval x = .int k m := h1
    have h2 : a.eval y = .int k n := h2
    exact ⟨_, by simp [execOp, ho, h1, h2, eqGuard, binOp, Op.intArith]; rfl, _, rfl⟩
theorem ok_andle {t u : TypeId} {x y : Operand} {m : Int} (ho : o.op = .binOp .and t x y u) (hx : VL E x (anyK .u64)) (hy : VL E y (is (.int .u64 m))) (h0 : 0 ≤ m) (h1m : m < 18446744073709551616) : OpOK P I o E (Cp.ex fun r : Int => fact (0 ≤ r ∧ r ≤ m) (is (.int .u64 r))) :=
  OpOK.same fun M w a he _ => by
    obtain ⟨n, h1⟩ := hx.ev he (by simp [ho, Op.operands])
    have h1 : a.eval x = .int .u64 n := h1
    have h2 : a.eval y = .int .u64 m := hy.ev he (by simp [ho, Op.operands])
    have hm : (BitVec.ofInt 64 m).toNat = m.toNat := by
      rw [BitVec.toNat_ofInt]; omega
    have hle : (BitVec.ofInt 64 n &&& BitVec.ofInt 64 m).toNat ≤ m.toNat := by
      rw [BitVec.toNat_and, hm]; exact Nat.and_le_right
    have hw : IntKind.u64.wrap (((BitVec.ofInt 64 n &&& BitVec.ofInt 64 m).toNat : Nat) : Int) = (((BitVec.ofInt 64 n &&& BitVec.ofInt 64 m).toNat : Nat) : Int) := IntWalk.u64_in _ ⟨by omega, by omega⟩
    refine ⟨_, by simp [execOp, ho, h1, h2, eqGuard, binOp, Op.intBits]; rfl, (((BitVec.ofInt 64 n &&& BitVec.ofInt 64 m).toNat : Nat) : Int), ⟨by omega, by omega⟩, ?_⟩
    exact congrArg (Value.int .u64) hw
theorem ok_shl1 {t u : TypeId} {x y : Operand} {k : Int} {b : Int} (ho : o.op = .binOp .shl t x y u) (hx : VL E x (is (.int .u64 1))) (hy : VL E y (is (.int .i64 k))) (h0 : 0 ≤ k) (h8 : k ≤ 8) (hb : 2 ^ k.toNat ≤ b) : OpOK P I o E (Cp.ex fun r : Int => fact (1 ≤ r ∧ r ≤ b) (is (.int .u64 r))) :=
  OpOK.same fun M w a he _ => by
    have h1 : a.eval x = .int .u64 1 := hx.ev he (by simp [ho, Op.operands])
    have h2 : a.eval y = .int .i64 k := hy.ev he (by simp [ho, Op.operands])
    have hn : ¬ k < 0 := by omega
    have hmin : min k.toNat 64 = k.toNat := by omega
    have e : ((2 ^ k.toNat : Nat) : Int) = (2 : Int) ^ k.toNat := Int.natCast_pow 2 k.toNat
    have hp1' : 1 ≤ 2 ^ k.toNat := Nat.one_le_two_pow
    have hp2' : 2 ^ k.toNat ≤ 256 := Nat.le_trans (Nat.pow_le_pow_right (n := 2) (by omega) (show k.toNat ≤ 8 by omega)) (by decide)
    have hp1 : (1 : Int) ≤ 2 ^ k.toNat := by rw [← e]; omega
    have hp2 : (2 : Int) ^ k.toNat ≤ 256 := by rw [← e]; omega
    have hw : IntKind.u64.wrap (2 ^ k.toNat) = 2 ^ k.toNat := IntWalk.u64_in _ ⟨by omega, by omega⟩
    refine ⟨.int .u64 (IntKind.u64.wrap (1 * 2 ^ (min k.toNat IntKind.u64.bits))), ?_, 2 ^ k.toNat, ⟨hp1, hb⟩, ?_⟩
    · simp only [execOp, ho, h1, h2]
      simp [eqGuard, binOp, Op.shift, hn]
      try rw [show min k.toNat IntKind.u64.bits = k.toNat from hmin]
    · show Value.int _ _ = Value.int _ _
      rw [show min k.toNat IntKind.u64.bits = k.toNat from hmin, Int.one_mul, hw]
end
theorem Fin.retM0r {P : Program} {n : Nat} {E : Env} {M0 : Av} {w0 : World} {S : Nat → Prop} {rs : List Res} {g : Func} {M1 : Av} {w1 : World} {r : Res} (hr : g.results = #[]) : Fin n E (Hp M0 w0 S (r :: extRes M1 w1 :: rs)) (bodyPost P g (BackM M0 w0 S rs M1 w1 unit_ (fun _ => r))) .ret := by
  rintro a w ⟨M, _, hd, he, hi⟩
  obtain ⟨h1, h2⟩ := outM hi
  exact ⟨hd, _, results0 hr, _, M, rfl, rfl, h1, h2⟩
theorem cells_atG {β : Type} {f : β → List Pr} {l : List β} {qs : List Pr} {sz : Nat} (hf : ∀ x, (f x).length = sz) {i : Int} (h : i.toNat < l.length) : ((((l.map f).flatten ++ qs).drop (0 + i.toNat * sz)).take sz) = f (l[i.toNat]'h) := by
  rw [Nat.zero_add]; exact cells_at hf (List.getElem?_eq_getElem h)
theorem cells_setG {β : Type} {f : β → List Pr} {sz : Nat} (hf : ∀ x, (f x).length = sz) {l : List β} {qs : List Pr} {i : Int} {x : β} (h : i.toNat < l.length) : ((l.map f).flatten ++ qs).take (0 + i.toNat * sz) ++ f x ++ ((l.map f).flatten ++ qs).drop (0 + i.toNat * sz + sz) = ((l.set i.toNat x).map f).flatten ++ qs := by
  rw [Nat.zero_add]; exact cells_set hf h
end Cp
namespace Cp
open Go Go.RowKit Go.Great

section
variable {P : Program} {n : Nat} {E : Env} {M0 : Av} {w0 : World} {S : Nat → Prop} {rs : List Res} {o : Oper} {β : Type} {b : Nat} {e : TypeId} {f : β → List Pr} {qs : List Pr} {Φ : List β → Prop}
def relRes (b : Nat) (e : TypeId) (f : β → List Pr) (Φ : List β → Prop) (qs : List Pr) : Res where
  blk := some b
  new := true
  h M w := ∃ st : List β, Φ st ∧ (cellsRes true b e ((st.map f).flatten ++ qs)).h M w
  st M w M' w' he hk h := let ⟨st, h1, h2⟩ := h; ⟨st, h1, (cellsRes true b e ((st.map f).flatten ++ qs)).st M w M' w' he hk h2⟩
theorem St.openL (j : Nat) (hj : rs[j]? = some (relRes b e f Φ qs)) {a : Act} {w : World} (h : St n E (Hp M0 w0 S rs) a w) :
    ∃ st : List β, Φ st ∧ St n E (Hp M0 w0 S (rs.set j (cellsRes true b e ((st.map f).flatten ++ qs)))) a w := by
  obtain ⟨M, h1, h2, h3, h4⟩ := h
  have h4 : HpH M0 w0 S rs M w := h4
  obtain ⟨st, hp, h8⟩ := (h4.hold _ (List.mem_of_getElem? hj)).1
  exact ⟨st, hp, M, h1, h2, h3, h4.swap1 hj rfl rfl h8⟩
theorem Tr.openL {Q : Exit → Act → World → Prop} {c : Code} (j : Nat) (hj : rs[j]? = some (relRes b e f Φ qs))
    (k : ∀ st : List β, Φ st → Tr P n E (Hp M0 w0 S (rs.set j (cellsRes true b e ((st.map f).flatten ++ qs)))) c Q) : Tr P n E (Hp M0 w0 S rs) c Q :=
  fun a w hs => let ⟨st, h1, h2⟩ := hs.openL j hj; k st h1 a w h2
theorem Fin.openL {Q : Exit → Act → World → Prop} {x : Exit} (j : Nat) (hj : rs[j]? = some (relRes b e f Φ qs))
    (k : ∀ st : List β, Φ st → Fin n E (Hp M0 w0 S (rs.set j (cellsRes true b e ((st.map f).flatten ++ qs)))) Q x) : Fin n E (Hp M0 w0 S rs) Q x :=
  fun a w hs => let ⟨st, h1, h2⟩ := hs.openL j hj; k st h1 a w h2
theorem TO.openL {Q : Exit → Act → World → Prop} {ops : Array Oper} {r : List Oper} (j : Nat) (hj : rs[j]? = some (relRes b e f Φ qs))
    (k : ∀ st : List β, Φ st → TO P n ops r E (Hp M0 w0 S (rs.set j (cellsRes true b e ((st.map f).flatten ++ qs)))) Q) : TO P n ops r E (Hp M0 w0 S rs) Q :=
  fun m hl a w hs => let ⟨st, h1, h2⟩ := hs.openL j hj; k st h1 m hl a w h2
theorem St.closeL {st : List β} (j : Nat) (hj : rs[j]? = some (cellsRes true b e ((st.map f).flatten ++ qs))) (hp : Φ st) {a : Act} {w : World} (h : St n E (Hp M0 w0 S rs) a w) : St n E (Hp M0 w0 S (rs.set j (relRes b e f Φ qs))) a w := by
  obtain ⟨M, h1, h2, h3, h4⟩ := h
  have h4 : HpH M0 w0 S rs M w := h4
  exact ⟨M, h1, h2, h3, h4.swap1 hj rfl rfl ⟨st, hp, (h4.hold _ (List.mem_of_getElem? hj)).1⟩⟩
theorem Tr.closeL {Q : Exit → Act → World → Prop} {c : Code} {st : List β} (Φ : List β → Prop) (j : Nat) (hj : rs[j]? = some (cellsRes true b e ((st.map f).flatten ++ qs))) (hp : Φ st)
    (k : Tr P n E (Hp M0 w0 S (rs.set j (relRes b e f Φ qs))) c Q) : Tr P n E (Hp M0 w0 S rs) c Q := Tr.conv (fun _ _ hs => hs.closeL j hj hp) k
theorem Fin.closeL {Q : Exit → Act → World → Prop} {x : Exit} {st : List β} (Φ : List β → Prop) (j : Nat) (hj : rs[j]? = some (cellsRes true b e ((st.map f).flatten ++ qs))) (hp : Φ st)
    (k : Fin n E (Hp M0 w0 S (rs.set j (relRes b e f Φ qs))) Q x) : Fin n E (Hp M0 w0 S rs) Q x := Fin.conv (fun _ _ hs => hs.closeL j hj hp) k
instance (priority := 300) nrm_nott (b : Bool) (p : Prop) [h : Nrm b false p] : Nrm (!b) true p := ⟨fun e => h.nrm (by simpa using e)⟩
instance (priority := 300) nrm_notf (b : Bool) (p : Prop) [h : Nrm b true p] : Nrm (!b) false p := ⟨fun e => h.nrm (by simpa using e)⟩
end
end Cp
namespace Cp
open Go.Sort

section
variable {β : Type} [Inhabited β] {c : β × β → Int} {st : List β} {a b i j : Int}
def ltc (c : β × β → Int) (x y : β) : Bool := decide (c (x, y) < 0)
theorem gx (h : i.toNat < st.length) : st.toArray[i.toNat]! = st[i.toNat] := by simp [h]
theorem sw (hi : i.toNat < st.length) (hj : j.toNat < st.length) : ((st.set i.toNat (st[j.toNat]'hj)).set j.toNat (st[i.toNat]'hi)).toArray = swp st.toArray i.toNat j.toNat := by
  unfold swp
  rw [gx hi, gx hj]
  simp [Array.setIfInBounds_def, hi, hj]
omit [Inhabited β] in
theorem lt_yes {x y : β} (h : c (x, y) < 0) : ltc c x y = true := decide_eq_true h
omit [Inhabited β] in
theorem lt_no {x y : β} (h : ¬ c (x, y) < 0) : ltc c x y = false := decide_eq_false h

theorem ins_go (h0 : 0 ≤ a) (ha : a < j) {k : Int} (hk : k = j - 1) (hj : j.toNat < st.length) (hj' : k.toNat < st.length) (hc : c (st[j.toNat]'hj, st[k.toNat]'hj') < 0) :
    insInner (ltc c) a.toNat k.toNat ((st.set j.toNat (st[k.toNat]'hj')).set k.toNat (st[j.toNat]'hj)).toArray = insInner (ltc c) a.toNat j.toNat st.toArray := by
  rw [sw hj hj']
  obtain ⟨m, hm⟩ : ∃ m, j.toNat = m + 1 := ⟨j.toNat - 1, by omega⟩
  have hk2 : k.toNat = m := by omega
  have e : ltc c (st.toArray[m + 1]!) (st.toArray[m]!) = true := by rw [← hm, ← hk2, gx hj, gx hj']; exact lt_yes hc
  rw [hm, hk2]
  conv => rhs; rw [insInner]
  rw [if_pos (by rw [e]; simp; omega)]
theorem ins_stopA (h0 : 0 ≤ a) (h : ¬ a < j) : st.toArray = insInner (ltc c) a.toNat j.toNat st.toArray := by
  cases hm : j.toNat with
  | zero => rfl
  | succ m => rw [insInner, if_neg (by simp; omega)]
theorem ins_stopB (h0 : 0 ≤ a) (ha : a < j) {k : Int} (hk : k = j - 1) (hj : j.toNat < st.length) (hj' : k.toNat < st.length) (hc : ¬ c (st[j.toNat]'hj, st[k.toNat]'hj') < 0) : st.toArray = insInner (ltc c) a.toNat j.toNat st.toArray := by
  obtain ⟨m, hm⟩ : ∃ m, j.toNat = m + 1 := ⟨j.toNat - 1, by omega⟩
  have hk2 : k.toNat = m := by omega
  have e : ltc c (st.toArray[m + 1]!) (st.toArray[m]!) = false := by rw [← hm, ← hk2, gx hj, gx hj']; exact lt_no hc
  rw [hm, insInner, if_neg (by rw [e]; simp)]
theorem inso_go {d : Array β} (h0 : 0 ≤ i) (h : i < b) : insOuter (ltc c) a.toNat b.toNat (i + 1).toNat (insInner (ltc c) a.toNat i.toNat d) = insOuter (ltc c) a.toNat b.toNat i.toNat d := by
  conv => rhs; rw [insOuter]
  rw [if_pos (by omega), show (i + 1).toNat = i.toNat + 1 by omega]
theorem inso_stop {d : Array β} (h0 : 0 ≤ i) (h : ¬ i < b) : insOuter (ltc c) a.toNat b.toNat i.toNat d = d := by
  rw [insOuter, if_neg (by omega)]
theorem inso_start {d : Array β} (h0 : 0 ≤ a) : insOuter (ltc c) a.toNat b.toNat (a + 1).toNat d = insertionSort (ltc c) d a.toNat b.toNat := by
  unfold insertionSort; rw [show (a + 1).toNat = a.toNat + 1 by omega]

variable {hi F r : Int}
theorem sift_end {d : Array β} (h0 : 0 ≤ r) (h : hi ≤ 2 * r + 1) : d = siftDown (ltc c) hi.toNat F.toNat r.toNat d := by
  rw [siftDown, dif_pos (by omega)]
theorem sift_stopLa {x y : Int} (h0 : 0 ≤ r) (hF : 0 ≤ F) (h : ¬ hi ≤ 2 * r + 1) (h2 : ¬ 2 * r + 1 + 1 < hi) (hx : x = F + r) (hy : y = F + (2 * r + 1)) (hxl : x.toNat < st.length) (hyl : y.toNat < st.length) (hc : ¬ c (st[x.toNat]'hxl, st[y.toNat]'hyl) < 0) :
    st.toArray = siftDown (ltc c) hi.toNat F.toNat r.toNat st.toArray := by
  have e : ltc c (st.toArray[F.toNat + r.toNat]!) (st.toArray[F.toNat + (2 * r.toNat + 1)]!) = false := by
    rw [show F.toNat + r.toNat = x.toNat by omega, show F.toNat + (2 * r.toNat + 1) = y.toNat by omega, gx hxl, gx hyl]; exact lt_no hc
  rw [siftDown, dif_neg (by omega), if_neg (by simp; omega), if_pos (by rw [e]; rfl)]
theorem sift_goLa {x y : Int} (h0 : 0 ≤ r) (hF : 0 ≤ F) (h : ¬ hi ≤ 2 * r + 1) (h2 : ¬ 2 * r + 1 + 1 < hi) (hx : x = F + r) (hy : y = F + (2 * r + 1)) (hxl : x.toNat < st.length) (hyl : y.toNat < st.length) (hc : c (st[x.toNat]'hxl, st[y.toNat]'hyl) < 0) :
    siftDown (ltc c) hi.toNat F.toNat (2 * r + 1).toNat ((st.set x.toNat (st[y.toNat]'hyl)).set y.toNat (st[x.toNat]'hxl)).toArray = siftDown (ltc c) hi.toNat F.toNat r.toNat st.toArray := by
  have e : ltc c (st.toArray[F.toNat + r.toNat]!) (st.toArray[F.toNat + (2 * r.toNat + 1)]!) = true := by
    rw [show F.toNat + r.toNat = x.toNat by omega, show F.toNat + (2 * r.toNat + 1) = y.toNat by omega, gx hxl, gx hyl]; exact lt_yes hc
  rw [sw hxl hyl]
  conv => rhs; rw [siftDown]
  rw [dif_neg (by omega), if_neg (by simp; omega), if_neg (by rw [e]; simp)]
  rw [show (2 * r + 1).toNat = 2 * r.toNat + 1 by omega, show F.toNat + r.toNat = x.toNat by omega, show F.toNat + (2 * r.toNat + 1) = y.toNat by omega]
theorem sift_stopLb {x y u v : Int} (h0 : 0 ≤ r) (hF : 0 ≤ F) (h : ¬ hi ≤ 2 * r + 1) (hu : u = F + (2 * r + 1)) (hv : v = F + (2 * r + 1) + 1) (hul : u.toNat < st.length) (hvl : v.toNat < st.length) (h2 : ¬ c (st[u.toNat]'hul, st[v.toNat]'hvl) < 0)
    (hx : x = F + r) (hy : y = F + (2 * r + 1)) (hxl : x.toNat < st.length) (hyl : y.toNat < st.length) (hc : ¬ c (st[x.toNat]'hxl, st[y.toNat]'hyl) < 0) : st.toArray = siftDown (ltc c) hi.toNat F.toNat r.toNat st.toArray := by
  have e : ltc c (st.toArray[F.toNat + r.toNat]!) (st.toArray[F.toNat + (2 * r.toNat + 1)]!) = false := by
    rw [show F.toNat + r.toNat = x.toNat by omega, show F.toNat + (2 * r.toNat + 1) = y.toNat by omega, gx hxl, gx hyl]; exact lt_no hc
  have e2 : ltc c (st.toArray[F.toNat + (2 * r.toNat + 1)]!) (st.toArray[F.toNat + (2 * r.toNat + 1) + 1]!) = false := by
    rw [show F.toNat + (2 * r.toNat + 1) + 1 = v.toNat by omega, show F.toNat + (2 * r.toNat + 1) = u.toNat by omega, gx hul, gx hvl]; exact lt_no h2
  rw [siftDown, dif_neg (by omega), if_neg (by rw [e2]; simp), if_pos (by rw [e]; rfl)]
theorem sift_goLb {x y u v : Int} (h0 : 0 ≤ r) (hF : 0 ≤ F) (h : ¬ hi ≤ 2 * r + 1) (hu : u = F + (2 * r + 1)) (hv : v = F + (2 * r + 1) + 1) (hul : u.toNat < st.length) (hvl : v.toNat < st.length) (h2 : ¬ c (st[u.toNat]'hul, st[v.toNat]'hvl) < 0)
    (hx : x = F + r) (hy : y = F + (2 * r + 1)) (hxl : x.toNat < st.length) (hyl : y.toNat < st.length) (hc : c (st[x.toNat]'hxl, st[y.toNat]'hyl) < 0) :
    siftDown (ltc c) hi.toNat F.toNat (2 * r + 1).toNat ((st.set x.toNat (st[y.toNat]'hyl)).set y.toNat (st[x.toNat]'hxl)).toArray = siftDown (ltc c) hi.toNat F.toNat r.toNat st.toArray := by
  have e : ltc c (st.toArray[F.toNat + r.toNat]!) (st.toArray[F.toNat + (2 * r.toNat + 1)]!) = true := by
    rw [show F.toNat + r.toNat = x.toNat by omega, show F.toNat + (2 * r.toNat + 1) = y.toNat by omega, gx hxl, gx hyl]; exact lt_yes hc
  have e2 : ltc c (st.toArray[F.toNat + (2 * r.toNat + 1)]!) (st.toArray[F.toNat + (2 * r.toNat + 1) + 1]!) = false := by
    rw [show F.toNat + (2 * r.toNat + 1) + 1 = v.toNat by omega, show F.toNat + (2 * r.toNat + 1) = u.toNat by omega, gx hul, gx hvl]; exact lt_no h2
  rw [sw hxl hyl]
  conv => rhs; rw [siftDown]
  rw [dif_neg (by omega), if_neg (by rw [e2]; simp), if_neg (by rw [e]; simp)]
  rw [show (2 * r + 1).toNat = 2 * r.toNat + 1 by omega, show F.toNat + r.toNat = x.toNat by omega, show F.toNat + (2 * r.toNat + 1) = y.toNat by omega]
theorem sift_stopR {x y u v : Int} (h0 : 0 ≤ r) (hF : 0 ≤ F) (h : 2 * r + 1 + 1 < hi) (hu : u = F + (2 * r + 1)) (hv : v = F + (2 * r + 1) + 1) (hul : u.toNat < st.length) (hvl : v.toNat < st.length) (h2 : c (st[u.toNat]'hul, st[v.toNat]'hvl) < 0)
    (hx : x = F + r) (hy : y = F + (2 * r + 1 + 1)) (hxl : x.toNat < st.length) (hyl : y.toNat < st.length) (hc : ¬ c (st[x.toNat]'hxl, st[y.toNat]'hyl) < 0) : st.toArray = siftDown (ltc c) hi.toNat F.toNat r.toNat st.toArray := by
  have e : ltc c (st.toArray[F.toNat + r.toNat]!) (st.toArray[F.toNat + (2 * r.toNat + 2)]!) = false := by
    rw [show F.toNat + r.toNat = x.toNat by omega, show F.toNat + (2 * r.toNat + 2) = y.toNat by omega, gx hxl, gx hyl]; exact lt_no hc
  have e2 : ltc c (st.toArray[F.toNat + (2 * r.toNat + 1)]!) (st.toArray[F.toNat + (2 * r.toNat + 1) + 1]!) = true := by
    rw [show F.toNat + (2 * r.toNat + 1) + 1 = v.toNat by omega, show F.toNat + (2 * r.toNat + 1) = u.toNat by omega, gx hul, gx hvl]; exact lt_yes h2
  rw [siftDown, dif_neg (by omega), if_pos (by rw [e2]; simp; omega), if_pos (by rw [e]; rfl)]
theorem sift_goR {x y u v : Int} (h0 : 0 ≤ r) (hF : 0 ≤ F) (h : 2 * r + 1 + 1 < hi) (hu : u = F + (2 * r + 1)) (hv : v = F + (2 * r + 1) + 1) (hul : u.toNat < st.length) (hvl : v.toNat < st.length) (h2 : c (st[u.toNat]'hul, st[v.toNat]'hvl) < 0)
    (hx : x = F + r) (hy : y = F + (2 * r + 1 + 1)) (hxl : x.toNat < st.length) (hyl : y.toNat < st.length) (hc : c (st[x.toNat]'hxl, st[y.toNat]'hyl) < 0) :
    siftDown (ltc c) hi.toNat F.toNat (2 * r + 1 + 1).toNat ((st.set x.toNat (st[y.toNat]'hyl)).set y.toNat (st[x.toNat]'hxl)).toArray = siftDown (ltc c) hi.toNat F.toNat r.toNat st.toArray := by
  have e : ltc c (st.toArray[F.toNat + r.toNat]!) (st.toArray[F.toNat + (2 * r.toNat + 2)]!) = true := by
    rw [show F.toNat + r.toNat = x.toNat by omega, show F.toNat + (2 * r.toNat + 2) = y.toNat by omega, gx hxl, gx hyl]; exact lt_yes hc
  have e2 : ltc c (st.toArray[F.toNat + (2 * r.toNat + 1)]!) (st.toArray[F.toNat + (2 * r.toNat + 1) + 1]!) = true := by
    rw [show F.toNat + (2 * r.toNat + 1) + 1 = v.toNat by omega, show F.toNat + (2 * r.toNat + 1) = u.toNat by omega, gx hul, gx hvl]; exact lt_yes h2
  rw [sw hxl hyl]
  conv => rhs; rw [siftDown]
  rw [dif_neg (by omega), if_pos (by rw [e2]; simp; omega), if_neg (by rw [e]; simp), dif_pos (by omega)]
  rw [show (2 * r + 1 + 1).toNat = 2 * r.toNat + 2 by omega, show F.toNat + r.toNat = x.toNat by omega, show F.toNat + (2 * r.toNat + 2) = y.toNat by omega]
theorem build_go {d : Array β} (h0 : 0 ≤ i) : heapBuild (ltc c) hi.toNat F.toNat (i - 1 + 1).toNat (siftDown (ltc c) hi.toNat F.toNat i.toNat d) = heapBuild (ltc c) hi.toNat F.toNat (i + 1).toNat d := by
  rw [show (i + 1).toNat = i.toNat + 1 by omega, show (i - 1 + 1).toNat = i.toNat by omega]; rfl
theorem build_end {d : Array β} (h0 : ¬ 0 ≤ i) : heapBuild (ltc c) hi.toNat F.toNat (i + 1).toNat d = d := by
  rw [show (i + 1).toNat = 0 by omega]; rfl
theorem pop_go {d : Array β} (h0 : 0 ≤ i) : heapPop (ltc c) F.toNat (i - 1 + 1).toNat (siftDown (ltc c) i.toNat F.toNat (0 : Int).toNat (swp d F.toNat (F.toNat + i.toNat))) = heapPop (ltc c) F.toNat (i + 1).toNat d := by
  rw [show (i + 1).toNat = i.toNat + 1 by omega, show (i - 1 + 1).toNat = i.toNat by omega]; rfl
theorem pop_end {d : Array β} (h0 : ¬ 0 ≤ i) : heapPop (ltc c) F.toNat (i + 1).toNat d = d := by
  rw [show (i + 1).toNat = 0 by omega]; rfl

theorem heap_half (h0 : 0 ≤ a) (hab : a ≤ b) (hb : b ≤ 1000000) : Go.IntKind.i64.wrap ((b - a - 1).tdiv 2) = (((b.toNat - a.toNat - 1) / 2 : Nat) : Int) := by
  have : (b - a - 1).tdiv 2 = (((b.toNat - a.toNat - 1) / 2 : Nat) : Int) := by
    rcases Int.lt_or_le (b - a - 1) 0 with h | h
    · have e : b - a - 1 = -1 := by omega
      rw [e, show b.toNat - a.toNat - 1 = 0 by omega]; rfl
    · rw [Int.tdiv_eq_ediv_of_nonneg h]; omega
  rw [this, Go.IntWalk.i64_in _ ⟨by omega, by omega⟩]
theorem heap_holds (hw : SWO (ltc c)) (d : Array β) (h0 : 0 ≤ a) (hab : a ≤ b) (hb : b.toNat ≤ d.size) :
    PermIn a.toNat b.toNat d (heapPop (ltc c) a.toNat (b - a).toNat (heapBuild (ltc c) (b - a).toNat a.toNat ((b.toNat - a.toNat - 1) / 2 + 1) d)) ∧ SortedIn (ltc c) a.toNat b.toNat (heapPop (ltc c) a.toNat (b - a).toNat (heapBuild (ltc c) (b - a).toNat a.toNat ((b.toNat - a.toNat - 1) / 2 + 1) d)) := by
  have := heapSort_holds hw d a.toNat b.toNat (by omega) hb
  unfold heapSort at this
  rw [show (b - a).toNat = b.toNat - a.toNat by omega]
  exact this

theorem quart {n : Int} (h0 : 0 ≤ n) (h1 : n ≤ 1000000) : 0 ≤ Go.IntKind.i64.wrap (n.tdiv 4) ∧ 4 * Go.IntKind.i64.wrap (n.tdiv 4) ≤ n ∧ n < 4 * Go.IntKind.i64.wrap (n.tdiv 4) + 4 := by
  have : n.tdiv 4 = n / 4 := Int.tdiv_eq_ediv_of_nonneg h0
  rw [this, Go.IntWalk.i64_in _ ⟨by omega, by omega⟩]
  omega

theorem su_go {p : β → Bool} (h0 : 0 ≤ i) (hij : i ≤ j) (hl : i.toNat < st.length) (hp : p (st[i.toNat]'hl) = true) : scanUp p st.toArray j.toNat (i + 1).toNat = scanUp p st.toArray j.toNat i.toNat := by
  conv => rhs; rw [scanUp]
  rw [if_pos (by rw [gx hl, hp]; simp; omega), show (i + 1).toNat = i.toNat + 1 by omega]
theorem su_stopA {p : β → Bool} {d : Array β} (hj : 0 ≤ j) (hij : ¬ i ≤ j) : scanUp p d j.toNat i.toNat = i.toNat := by
  rw [scanUp, if_neg (by simp; omega)]
theorem su_stopB {p : β → Bool} (hl : i.toNat < st.length) (hp : p (st[i.toNat]'hl) = false) : scanUp p st.toArray j.toNat i.toNat = i.toNat := by
  rw [scanUp, if_neg (by rw [gx hl, hp]; simp)]
theorem sd_go {p : β → Bool} (h0 : 1 ≤ i) (hij : i ≤ j) (hl : j.toNat < st.length) (hp : p (st[j.toNat]'hl) = true) : scanDown p st.toArray i.toNat (j - 1).toNat = scanDown p st.toArray i.toNat j.toNat := by
  obtain ⟨m, hm⟩ : ∃ m, j.toNat = m + 1 := ⟨j.toNat - 1, by omega⟩
  have hp' : p (st.toArray[m + 1]!) = true := by rw [← hm, gx hl]; exact hp
  rw [show (j - 1).toNat = m by omega, hm]
  conv => rhs; rw [scanDown]
  rw [if_pos (by rw [hp']; simp; omega)]
theorem sd_stopA {p : β → Bool} {d : Array β} (h0 : 0 ≤ j) (hij : ¬ i ≤ j) : scanDown p d i.toNat j.toNat = j.toNat := by
  cases hm : j.toNat with
  | zero => rfl
  | succ m => rw [scanDown, if_neg (by simp; omega)]
theorem sd_stopB {p : β → Bool} (hl : j.toNat < st.length) (hp : p (st[j.toNat]'hl) = false) : scanDown p st.toArray i.toNat j.toNat = j.toNat := by
  cases hm : j.toNat with
  | zero => rfl
  | succ m =>
    have hp' : p (st.toArray[m + 1]!) = false := by rw [← hm, gx hl]; exact hp
    rw [scanDown, if_neg (by rw [hp']; simp)]
abbrev pU (c : β × β → Int) (d : Array β) (a : Int) : β → Bool := fun x => ltc c x d[a.toNat]!
abbrev pD (c : β × β → Int) (d : Array β) (a : Int) : β → Bool := fun x => !ltc c x d[a.toNat]!
abbrev qU (c : β × β → Int) (d : Array β) (a : Int) : β → Bool := fun x => !ltc c d[a.toNat]! x
abbrev qD (c : β × β → Int) (d : Array β) (a : Int) : β → Bool := fun x => ltc c d[a.toNat]! x
theorem pU_t (hi : i.toNat < st.length) (ha : a.toNat < st.length) (h : c (st[i.toNat]'hi, st[a.toNat]'ha) < 0) : pU c st.toArray a (st[i.toNat]'hi) = true := by show ltc c _ _ = true; rw [gx ha]; exact lt_yes h
theorem pU_f (hi : i.toNat < st.length) (ha : a.toNat < st.length) (h : ¬ c (st[i.toNat]'hi, st[a.toNat]'ha) < 0) : pU c st.toArray a (st[i.toNat]'hi) = false := by show ltc c _ _ = false; rw [gx ha]; exact lt_no h
theorem pD_t (hi : i.toNat < st.length) (ha : a.toNat < st.length) (h : ¬ c (st[i.toNat]'hi, st[a.toNat]'ha) < 0) : pD c st.toArray a (st[i.toNat]'hi) = true := by show (!ltc c _ _) = true; rw [gx ha, lt_no h]; rfl
theorem pD_f (hi : i.toNat < st.length) (ha : a.toNat < st.length) (h : c (st[i.toNat]'hi, st[a.toNat]'ha) < 0) : pD c st.toArray a (st[i.toNat]'hi) = false := by show (!ltc c _ _) = false; rw [gx ha, lt_yes h]; rfl
theorem qU_t (hi : i.toNat < st.length) (ha : a.toNat < st.length) (h : ¬ c (st[a.toNat]'ha, st[i.toNat]'hi) < 0) : qU c st.toArray a (st[i.toNat]'hi) = true := by show (!ltc c _ _) = true; rw [gx ha, lt_no h]; rfl
theorem qU_f (hi : i.toNat < st.length) (ha : a.toNat < st.length) (h : c (st[a.toNat]'ha, st[i.toNat]'hi) < 0) : qU c st.toArray a (st[i.toNat]'hi) = false := by show (!ltc c _ _) = false; rw [gx ha, lt_yes h]; rfl
theorem qD_t (hi : i.toNat < st.length) (ha : a.toNat < st.length) (h : c (st[a.toNat]'ha, st[i.toNat]'hi) < 0) : qD c st.toArray a (st[i.toNat]'hi) = true := by show ltc c _ _ = true; rw [gx ha]; exact lt_yes h
theorem qD_f (hi : i.toNat < st.length) (ha : a.toNat < st.length) (h : ¬ c (st[a.toNat]'ha, st[i.toNat]'hi) < 0) : qD c st.toArray a (st[i.toNat]'hi) = false := by show ltc c _ _ = false; rw [gx ha]; exact lt_no h

abbrev PLp (c : β × β → Int) (a i j : Int) (d : Array β) : Nat × Array β := partLoop (ltc c) a.toNat i.toNat j.toNat d
abbrev PLe (c : β × β → Int) (a i j : Int) (d : Array β) : Nat × Array β := partEqLoop (ltc c) a.toNat i.toNat j.toNat d
theorem part_stop {i2 j2 : Int} (h1 : i2.toNat = scanUp (pU c st.toArray a) st.toArray j.toNat i.toNat) (h2 : j2.toNat = scanDown (pD c st.toArray a) st.toArray i2.toNat j.toNat) (h0 : 0 ≤ j2) (h : i2 > j2) : PLp c a i j st.toArray = (j2.toNat, st.toArray) := by
  have h := partLoop_eq (ltc c) a.toNat i.toNat j.toNat st.toArray
  rw [← h1, ← h2, if_pos (by omega)] at h
  exact h
theorem part_go {i2 j2 : Int} (h1 : i2.toNat = scanUp (pU c st.toArray a) st.toArray j.toNat i.toNat) (h2 : j2.toNat = scanDown (pD c st.toArray a) st.toArray i2.toNat j.toNat) (h0 : 0 ≤ i2) (h : ¬ i2 > j2) (hi : i2.toNat < st.length) (hj : j2.toNat < st.length) :
    PLp c a (i2 + 1) (j2 - 1) ((st.set i2.toNat (st[j2.toNat]'hj)).set j2.toNat (st[i2.toNat]'hi)).toArray = PLp c a i j st.toArray := by
  have h := partLoop_eq (ltc c) a.toNat i.toNat j.toNat st.toArray
  rw [← h1, ← h2, if_neg (by omega)] at h
  unfold PLp
  rw [h, sw hi hj, show (i2 + 1).toNat = i2.toNat + 1 by omega, show (j2 - 1).toNat = j2.toNat - 1 by omega]
theorem peq_stop {i2 j2 : Int} (h1 : i2.toNat = scanUp (qU c st.toArray a) st.toArray j.toNat i.toNat) (h2 : j2.toNat = scanDown (qD c st.toArray a) st.toArray i2.toNat j.toNat) (h0 : 0 ≤ j2) (h : i2 > j2) : PLe c a i j st.toArray = (i2.toNat, st.toArray) := by
  have h := partEqLoop_eq (ltc c) a.toNat i.toNat j.toNat st.toArray
  rw [← h1, ← h2, if_pos (by omega)] at h
  exact h
theorem peq_go {i2 j2 : Int} (h1 : i2.toNat = scanUp (qU c st.toArray a) st.toArray j.toNat i.toNat) (h2 : j2.toNat = scanDown (qD c st.toArray a) st.toArray i2.toNat j.toNat) (h0 : 0 ≤ i2) (h : ¬ i2 > j2) (hi : i2.toNat < st.length) (hj : j2.toNat < st.length) :
    PLe c a (i2 + 1) (j2 - 1) ((st.set i2.toNat (st[j2.toNat]'hj)).set j2.toNat (st[i2.toNat]'hi)).toArray = PLe c a i j st.toArray := by
  have h := partEqLoop_eq (ltc c) a.toNat i.toNat j.toNat st.toArray
  rw [← h1, ← h2, if_neg (by omega)] at h
  unfold PLe
  rw [h, sw hi hj, show (i2 + 1).toNat = i2.toNat + 1 by omega, show (j2 - 1).toNat = j2.toNat - 1 by omega]

variable {lt : β → β → Bool} {a0 b0 m n : Nat} {l s s' : Array β}
structure PS (lt : β → β → Bool) (a0 b0 a b : Nat) (l s : Array β) : Prop where
  ha : a0 ≤ a
  hab : a ≤ b
  hb : b ≤ b0
  hp : PermIn a0 b0 l s
  below : Below lt a b s
  out : ∀ i j, a0 ≤ i → i < j → j < b0 → (i < a ∨ b ≤ j) → lt s[j]! s[i]! = false
theorem PS.init (h : a0 ≤ b0) (hB : Below lt a0 b0 l) : PS lt a0 b0 a0 b0 l l := ⟨Nat.le_refl _, h, Nat.le_refl _, permIn_refl _ _ _, hB, fun _ _ h1 _ h3 h4 => by omega⟩
theorem PS.perm (h : PS lt a0 b0 m n l s) (hs : b0 ≤ l.size) (hq : PermIn m n s s') : PS lt a0 b0 m n l s' := by
  have hsz : s.size = l.size := h.hp.1
  have hns : n ≤ s.size := by have := h.hb; omega
  refine ⟨h.ha, h.hab, h.hb, permIn_trans _ _ _ _ _ h.hp (permIn_mono _ _ _ _ _ _ h.ha h.hb (by omega) hq), Below.permA permIn_all hns h.below hq, fun i j h1 h2 h3 h4 => ?_⟩
  have hm := h.hab
  by_cases hi : m ≤ i ∧ i < n
  · have hj : n ≤ j := by omega
    rw [hq.2.1 j (.inr hj)]
    exact permIn_all s s' m n (fun x => lt s[j]! x = false) hns hq (fun k hk1 hk2 => h.out k j (by have := h.ha; omega) (by omega) h3 (.inr hj)) i hi.1 hi.2
  · rw [hq.2.1 i (by omega)]
    by_cases hj : m ≤ j ∧ j < n
    · exact permIn_all s s' m n (fun x => lt x s[i]! = false) hns hq (fun k hk1 hk2 => h.out i k h1 (by omega) (by have := h.hb; omega) (.inl (by omega))) j hj.1 hj.2
    · rw [hq.2.1 j (by omega)]; exact h.out i j h1 h2 h3 h4
theorem PS.done (h : PS lt a0 b0 m n l s) (hs : SortedIn lt m n s) : PermIn a0 b0 l s ∧ SortedIn lt a0 b0 s := by
  refine ⟨h.hp, fun i j h1 h2 h3 => ?_⟩
  by_cases hh : i < m ∨ n ≤ j
  · exact h.out i j h1 h2 h3 hh
  · exact hs i j (by omega) h2 (by omega)
theorem PS.eq (hw : SWO lt) (h : PS lt a0 b0 m n l s) (hs : b0 ≤ l.size) {pv : β} {k : Nat} (hm : 0 < m) (hpv : lt s[m - 1]! pv = false) (hk : m < k) (hkn : k ≤ n) (hq : PermIn m n s s') (h1 : ∀ i, m ≤ i → i < k → lt pv s'[i]! = false) (h2 : ∀ i, k ≤ i → i < n → lt pv s'[i]! = true) :
    PS lt a0 b0 k n l s' := by
  have h' := h.perm hs hq
  have hle : ∀ j, m ≤ j → j < n → lt s'[j]! pv = false := by
    intro j hj1 hj2
    by_cases hjk : k ≤ j
    · exact hw.asym (h2 j hjk hj2)
    · have hb := h'.below
      rcases hb with hb | hb
      · omega
      · have hb := hb j hj1 hj2
        rw [hq.2.1 (m - 1) (.inl (by omega))] at hb
        exact hw.ntrans _ _ _ hb hpv
  have key : ∀ i j, m ≤ i → i < k → m ≤ j → j < n → lt s'[j]! s'[i]! = false := fun i j ha hb hc hd => hw.ntrans _ _ _ (hle j hc hd) (h1 i ha hb)
  refine ⟨by have := h.ha; omega, hkn, h.hb, h'.hp, .inr fun i hi1 hi2 => key (k - 1) i (by omega) (by omega) (by omega) hi2, fun i j g1 g2 g3 g4 => ?_⟩
  by_cases hh : i < m ∨ n ≤ j
  · exact h'.out i j g1 g2 g3 hh
  · exact key i j (by omega) (by omega) (by omega) (by omega)
/-- What a partition yields. -/
structure Parted (lt : β → β → Bool) (m n k : Nat) (s : Array β) : Prop where
  h1 : m ≤ k
  h2 : k < n
  lo : ∀ i, m ≤ i → i < k → lt s[i]! s[k]! = true
  up : ∀ i, k < i → i < n → lt s[i]! s[k]! = false
theorem PS.left (hw : SWO lt) {k : Nat} (h : PS lt a0 b0 m n l s) (hs : b0 ≤ l.size) (hp : Parted lt m n k s) (hq : PermIn m k s s') (hso : SortedIn lt m k s') : PS lt a0 b0 (k + 1) n l s' := by
  obtain ⟨h1, h2, lo, up⟩ := hp
  have hsz : s.size = l.size := h.hp.1
  have hks : k ≤ s.size := by have := h.hb; omega
  have hq2 : PermIn m n s s' := permIn_mono _ _ _ _ _ _ (Nat.le_refl _) (by omega) (by have := h.hb; omega) hq
  have h' := h.perm hs hq2
  have ek : s'[k]! = s[k]! := hq.2.1 k (.inr (Nat.le_refl _))
  have lo' : ∀ i, m ≤ i → i < k → lt s'[i]! s[k]! = true := fun i g1 g2 => permIn_all s s' m k (fun x => lt x s[k]! = true) hks hq lo i g1 g2
  have up' : ∀ i, k < i → i < n → lt s'[i]! s[k]! = false := fun i g1 g2 => by rw [hq.2.1 i (.inr (by omega))]; exact up i g1 g2
  refine ⟨by have := h.ha; omega, by omega, h.hb, h'.hp, .inr fun i g1 g2 => ?_, fun i j g1 g2 g3 g4 => ?_⟩
  · rw [show k + 1 - 1 = k by omega, ek]; exact up' i (by omega) g2
  · by_cases hh : i < m ∨ n ≤ j
    · exact h'.out i j g1 g2 g3 hh
    · rcases Nat.lt_trichotomy i k with hik | hik | hik
      · rcases Nat.lt_trichotomy j k with hjk | hjk | hjk
        · exact hso i j (by omega) g2 hjk
        · subst hjk; rw [ek]; exact hw.asym (lo' i (by omega) hik)
        · exact hw.ntrans _ _ _ (up' j hjk (by omega)) (hw.asym (lo' i (by omega) hik))
      · subst hik; rw [ek]; exact up' j g2 (by omega)
      · omega
theorem PS.right (hw : SWO lt) {k : Nat} (h : PS lt a0 b0 m n l s) (hs : b0 ≤ l.size) (hp : Parted lt m n k s) (hq : PermIn (k + 1) n s s') (hso : SortedIn lt (k + 1) n s') : PS lt a0 b0 m k l s' := by
  obtain ⟨h1, h2, lo, up⟩ := hp
  have hsz : s.size = l.size := h.hp.1
  have hns : n ≤ s.size := by have := h.hb; omega
  have hq2 : PermIn m n s s' := permIn_mono _ _ _ _ _ _ (by omega) (Nat.le_refl _) hns hq
  have h' := h.perm hs hq2
  have ek : s'[k]! = s[k]! := hq.2.1 k (.inl (by omega))
  have lo' : ∀ i, m ≤ i → i < k → lt s'[i]! s[k]! = true := fun i g1 g2 => by rw [hq.2.1 i (.inl (by omega))]; exact lo i g1 g2
  have up' : ∀ i, k < i → i < n → lt s'[i]! s[k]! = false := fun i g1 g2 => permIn_all s s' (k + 1) n (fun x => lt x s[k]! = false) hns hq (fun i q1 q2 => up i (by omega) q2) i (by omega) g2
  refine ⟨h.ha, h1, by have := h.hb; omega, h'.hp, ?_, fun i j g1 g2 g3 g4 => ?_⟩
  · rcases h'.below with hb | hb
    · exact .inl hb
    · exact .inr fun i q1 q2 => hb i q1 (by omega)
  · by_cases hh : i < m ∨ n ≤ j
    · exact h'.out i j g1 g2 g3 hh
    · rcases Nat.lt_trichotomy i k with hik | hik | hik
      · rcases Nat.lt_trichotomy j k with hjk | hjk | hjk
        · omega
        · subst hjk; rw [ek]; exact hw.asym (lo' i (by omega) hik)
        · exact hw.ntrans _ _ _ (up' j hjk (by omega)) (hw.asym (lo' i (by omega) hik))
      · subst hik; rw [ek]; exact up' j g2 (by omega)
      · exact hso i j (by omega) g2 (by omega)
theorem PS.belowL {k : Nat} (h : PS lt a0 b0 m n l s) (hk : k ≤ n) : Below lt m k s := h.below.imp id fun hb i g1 g2 => hb i g1 (by omega)
theorem Parted.belowR {k : Nat} (hp : Parted lt m n k s) : Below lt (k + 1) n s := .inr fun i g1 g2 => by rw [show k + 1 - 1 = k by omega]; exact hp.up i (by omega) g2
/-- No later one of neighbours is less: ascending. -/
theorem sorted_of_adj (hw : SWO lt) (h : ∀ k, m < k → k < n → lt s[k]! s[k - 1]! = false) : SortedIn lt m n s := by
  intro i j h1 h2 h3
  obtain ⟨d, rfl⟩ : ∃ d, j = i + d + 1 := ⟨j - i - 1, by omega⟩
  induction d with
  | zero => exact h (i + 0 + 1) (by omega) h3
  | succ d ih => exact hw.ntrans _ _ _ (h (i + (d + 1) + 1) (by omega) h3) (by rw [show i + (d + 1) + 1 - 1 = i + d + 1 by omega]; exact ih (by omega) (by omega))
end

section
variable {β : Type} [Inhabited β] {c : β × β → Int} {st : List β}
def Adj (c : β × β → Int) (a b : Int) (l : List β) : Prop := ∀ k, a.toNat < k → k < b.toNat → ltc c l.toArray[k]! l.toArray[k - 1]! = false
theorem Adj.start (a : Int) (l : List β) (h0 : 0 ≤ a) : Adj c a (a + 1) l := fun k h1 h2 => by omega
theorem Adj.go {a i k : Int} (h : Adj c a i st) (h0 : 0 ≤ a) (ha : a < i) (hk : k = i - 1) (hi : i.toNat < st.length) (hk' : k.toNat < st.length) (hc : 0 ≤ c (st[i.toNat]'hi, st[k.toNat]'hk')) : Adj c a (i + 1) st := fun m h1 h2 => by
  rcases Nat.lt_or_ge m i.toNat with hm | hm
  · exact h m h1 hm
  · have e : m = i.toNat := by omega
    subst e
    rw [show i.toNat - 1 = k.toNat by omega, gx hi, gx hk']; exact lt_no (by omega)
theorem Adj.sorted {a b : Int} (hw : SWO (ltc c)) (h : Adj c a b st) : SortedIn (ltc c) a.toNat b.toNat st.toArray := sorted_of_adj hw h
end

section
variable {β : Type} [Inhabited β]
/-- Elements from a on, up to b, were exchanged among themselves. -/
def PermL (a b : Int) (l st : List β) : Prop := PermIn a.toNat b.toNat l.toArray st.toArray
/-- And are ascending there. -/
def SortL (c : β × β → Int) (a b : Int) (l st : List β) : Prop := PermIn a.toNat b.toNat l.toArray st.toArray ∧ SortedIn (ltc c) a.toNat b.toNat st.toArray
theorem PermL.len {a b : Int} {l st : List β} (h : PermL a b l st) : st.length = l.length := by have := h.1; simpa using this
theorem SortL.len {c : β × β → Int} {a b : Int} {l st : List β} (h : SortL c a b l st) : st.length = l.length := by have := h.1.1; simpa using this
def SiftL (c : β × β → Int) (hi first lo : Int) (l st : List β) : Prop := st.length = l.length ∧ st.toArray = siftDown (ltc c) hi.toNat first.toNat lo.toNat l.toArray
theorem SiftL.len {c : β × β → Int} {hi first lo : Int} {l st : List β} (h : SiftL c hi first lo l st) : st.length = l.length := h.1
abbrev PE (c : β × β → Int) (a b pv : Int) (l : List β) : Nat × Array β := partitionEqual (ltc c) l.toArray a.toNat b.toNat pv.toNat
abbrev PA (c : β × β → Int) (a b pv : Int) (l : List β) : Nat × Bool × Array β := partition (ltc c) l.toArray a.toNat b.toNat pv.toNat
def PartE (c : β × β → Int) (a b pv : Int) (l st : List β) : Prop := st.length = l.length ∧ st.toArray = (PE c a b pv l).2
def PartL (c : β × β → Int) (a b pv : Int) (l st : List β) : Prop := st.length = l.length ∧ st.toArray = (PA c a b pv l).2.2
theorem PartE.len {c : β × β → Int} {a b pv : Int} {l st : List β} (h : PartE c a b pv l st) : st.length = l.length := h.1
theorem PartL.len {c : β × β → Int} {a b pv : Int} {l st : List β} (h : PartL c a b pv l st) : st.length = l.length := h.1
theorem pe_start {c : β × β → Int} {a b pv : Int} {l : List β} (h0 : 0 ≤ a) (hab : a < b) (ha : a.toNat < l.length) (hp : pv.toNat < l.length) : PLe c a (a + 1) (b - 1) ((l.set a.toNat (l[pv.toNat]'hp)).set pv.toNat (l[a.toNat]'ha)).toArray = PE c a b pv l := by
  unfold PLe PE partitionEqual
  rw [sw ha hp, show (a + 1).toNat = a.toNat + 1 by omega, show (b - 1).toNat = b.toNat - 1 by omega]
theorem pa_start {c : β × β → Int} {a b pv : Int} {l : List β} (h0 : 0 ≤ a) (hab : a < b) (ha : a.toNat < l.length) (hp : pv.toNat < l.length) {st : List β} {j : Int}
    (h : PLp c a (a + 1) (b - 1) ((l.set a.toNat (l[pv.toNat]'hp)).set pv.toNat (l[a.toNat]'ha)).toArray = (j.toNat, st.toArray)) (hj : j.toNat < st.length) (has : a.toNat < st.length) : (PA c a b pv l).1 = j.toNat ∧ ((st.set j.toNat (st[a.toNat]'has)).set a.toNat (st[j.toNat]'hj)).toArray = (PA c a b pv l).2.2 := by
  unfold PLp at h
  rw [sw ha hp, show (a + 1).toNat = a.toNat + 1 by omega, show (b - 1).toNat = b.toNat - 1 by omega] at h
  unfold PA
  rw [partition_fst, partition_arr, h, sw hj has]
  exact ⟨rfl, rfl⟩
theorem PermL.refl (a b : Int) (l : List β) : PermL a b l l := permIn_refl _ _ _
theorem PermL.swap {a b i j : Int} {l st : List β} (h : PermL a b l st) (hi : i.toNat < st.length) (hj : j.toNat < st.length) (h1 : a.toNat ≤ i.toNat) (h2 : i.toNat < b.toNat) (h3 : a.toNat ≤ j.toNat) (h4 : j.toNat < b.toNat) (hb : b.toNat ≤ l.length) :
    PermL a b l ((st.set i.toNat (st[j.toNat]'hj)).set j.toNat (st[i.toNat]'hi)) := by
  unfold PermL
  rw [sw hi hj]
  exact permIn_trans _ _ _ _ _ h (swp_permIn _ _ _ _ _ h1 h2 h3 h4 (by have := h.len; simp; omega))
theorem PermL.trans {a b : Int} {l m st : List β} (h : PermL a b l m) (k : PermL a b m st) : PermL a b l st := permIn_trans _ _ _ _ _ h k
theorem parted_of {c : β × β → Int} (hw : SWO (ltc c)) {a b pv : Int} {l st : List β} (h : PartL c a b pv l st) (h0 : 0 ≤ a) (hp1 : a ≤ pv) (hp2 : pv < b) (hb : b.toNat ≤ l.length) : PermL a b l st ∧ Parted (ltc c) a.toNat b.toNat (PA c a b pv l).1 st.toArray := by
  obtain ⟨h1, h2, h3, h4, h5⟩ := partition_holds (ltc c) hw l.toArray a.toNat b.toNat pv.toNat (by omega) (by omega) (by simpa using hb)
  unfold PermL
  rw [h.2]
  exact ⟨h3, h1, h2, h4, h5⟩
theorem PS.eqL {c : β × β → Int} (hw : SWO (ltc c)) {a0 b0 : Nat} {a b pv k : Int} {l st t : List β} (h : PS (ltc c) a0 b0 a.toNat b.toNat l.toArray st.toArray) (hs : b0 ≤ l.toArray.size) (ht : PartE c a b pv st t) (h0 : 0 < a) (hab : a < b) (hk : k = a - 1) (hkl : k.toNat < st.length) (hp1 : a ≤ pv) (hp2 : pv < b) (hpl : pv.toNat < st.length) (hb : b.toNat ≤ st.length)
    (hc : 0 ≤ c (st[k.toNat]'hkl, st[pv.toNat]'hpl)) : PS (ltc c) a0 b0 (PE c a b pv st).1 b.toNat l.toArray t.toArray ∧ a.toNat < (PE c a b pv st).1 ∧ (PE c a b pv st).1 ≤ b.toNat := by
  have hlt : ltc c st.toArray[a.toNat - 1]! st.toArray[pv.toNat]! = false := by rw [show a.toNat - 1 = k.toNat by omega, gx hkl, gx hpl]; exact lt_no (by omega)
  have hmin : ∀ i, a.toNat ≤ i → i < b.toNat → ltc c st.toArray[i]! st.toArray[pv.toNat]! = false := fun i h1 h2 => by
    rcases h.below with hb | hb
    · omega
    · exact hw.ntrans _ _ _ (hb i h1 h2) hlt
  obtain ⟨h1, h2, h3, h4, h5⟩ := partitionEqual_holds (ltc c) hw st.toArray a.toNat b.toNat pv.toNat (by omega) (by omega) (by simpa using hb) hmin
  refine ⟨?_, h1, h2⟩
  rw [ht.2]
  exact PS.eq hw h hs (by omega) hlt h1 h2 h3 h4 h5
theorem PermL.whole {l st : List β} (h : PermL 0 l.length l st) : st.Perm l := by
  have := h.2.2
  have e := h.len
  rwa [show ((l.length : Nat) : Int).toNat = l.toArray.size by simp, show (0 : Int).toNat = 0 from rfl, Array.extract_size, show l.toArray.size = st.toArray.size by simp [e], Array.extract_size] at this
end
section
open Go
variable {P : Program} {n : Nat} {E : Env} {M0 : Av} {w0 : World} {S : Nat → Prop} {rs : List Res} {new : Bool} {b : Nat} {T : TypeId} {ps : List Pr}
theorem St.leC (j : Nat) (qs : List Pr) (hj : rs[j]? = some (cellsRes new b T ps)) (hl : LeL ps qs) {a : Act} {w : World} (h : St n E (Hp M0 w0 S rs) a w) : St n E (Hp M0 w0 S (rs.set j (cellsRes new b T qs))) a w := by
  obtain ⟨M, h1, h2, h3, h4⟩ := h
  have h4 : HpH M0 w0 S rs M w := h4
  obtain ⟨hM, cs, hb, hc, ho⟩ := (h4.hold _ (List.mem_of_getElem? hj)).1
  exact ⟨M, h1, h2, h3, h4.swap1 hj rfl rfl ⟨hM, cs, hb, hl.hl hc, ho⟩⟩
theorem Tr.leC {Q : Exit → Act → World → Prop} {c : Code} (j : Nat) (qs : List Pr) (hj : rs[j]? = some (cellsRes new b T ps)) (hl : LeL ps qs) (k : Tr P n E (Hp M0 w0 S (rs.set j (cellsRes new b T qs))) c Q) : Tr P n E (Hp M0 w0 S rs) c Q := Tr.conv (fun _ _ hs => hs.leC j qs hj hl) k
end
end Cp
namespace Cp
open Go Go.RowKit Go.Great
section
variable {P : Program} {n : Nat} {E : Env} {I : Asn} {Q : Exit → Act → World → Prop}
theorem Tr.cutD1V0 {α0 : Type} (K : Env) (hK : SubL E K) (F : α0 → Env) (Ii : α0 → Asn) (C : α0 → Prop) {x y : Code} (h : Tr P n E I x (Exit.then (fun a w => ∃ x0, C x0 ∧ St n (F x0 ++ K) (Ii x0) a w) Q))
    (k : ∀ x0, C x0 → Tr P n (F x0 ++ K) (Ii x0) y Q) : Tr P n E I (.seq x y) Q :=
  Tr.cut (fun y : α0 => F y ++ K) (fun y => Ii y) (fun y => C y) (Tr.post h fun e a w h => by cases e <;> first | exact h | (obtain ⟨x0, h1, h2⟩ := h; exact ⟨x0, h1, h2⟩)) fun y hy => k y hy
theorem Tr.cutD2V0 {α0 α1 : Type} (K : Env) (hK : SubL E K) (F : α0 → α1 → Env) (Ii : α0 → α1 → Asn) (C : α0 → α1 → Prop) {x y : Code} (h : Tr P n E I x (Exit.then (fun a w => ∃ x0 x1, C x0 x1 ∧ St n (F x0 x1 ++ K) (Ii x0 x1) a w) Q))
    (k : ∀ x0 x1, C x0 x1 → Tr P n (F x0 x1 ++ K) (Ii x0 x1) y Q) : Tr P n E I (.seq x y) Q :=
  Tr.cut (fun y : α0 × α1 => F y.1 y.2 ++ K) (fun y => Ii y.1 y.2) (fun y => C y.1 y.2) (Tr.post h fun e a w h => by cases e <;> first | exact h | (obtain ⟨x0, x1, h1, h2⟩ := h; exact ⟨(x0, x1), h1, h2⟩)) fun y hy => k y.1 y.2 hy
theorem Tr.cutD3V0 {α0 α1 α2 : Type} (K : Env) (hK : SubL E K) (F : α0 → α1 → α2 → Env) (Ii : α0 → α1 → α2 → Asn) (C : α0 → α1 → α2 → Prop) {x y : Code} (h : Tr P n E I x (Exit.then (fun a w => ∃ x0 x1 x2, C x0 x1 x2 ∧ St n (F x0 x1 x2 ++ K) (Ii x0 x1 x2) a w) Q))
    (k : ∀ x0 x1 x2, C x0 x1 x2 → Tr P n (F x0 x1 x2 ++ K) (Ii x0 x1 x2) y Q) : Tr P n E I (.seq x y) Q :=
  Tr.cut (fun y : α0 × α1 × α2 => F y.1 y.2.1 y.2.2 ++ K) (fun y => Ii y.1 y.2.1 y.2.2) (fun y => C y.1 y.2.1 y.2.2) (Tr.post h fun e a w h => by cases e <;> first | exact h | (obtain ⟨x0, x1, x2, h1, h2⟩ := h; exact ⟨(x0, x1, x2), h1, h2⟩)) fun y hy => k y.1 y.2.1 y.2.2 hy
end
end Cp
namespace Go.Proofs.YthmnoekgicggnaaGreat
open Go Go.RowKit Cp

/-- A comparison: antisymmetric, transitive, and what is equal compares alike. -/
structure Cmp {α : Type} (c : α → α → Int) : Prop where
  swap : ∀ x y, c y x = - c x y
  tr : ∀ x y z, c x y < 0 → c y z < 0 → c x z < 0
  eq : ∀ x y z, c x y = 0 → c x z = c y z
theorem Cmp.eqr {α : Type} {c : α → α → Int} (h : Cmp c) (x y z : α) (e : c y z = 0) : c x y = c x z := by
  have h1 := h.eq y z x e
  have h2 := h.swap x y
  have h3 := h.swap x z
  omega
theorem Cmp.swo {α : Type} {c : α → α → Int} (h : Cmp c) : Go.Sort.SWO (ltc fun p : α × α => c p.1 p.2) where
  irrefl x := by have := h.swap x x; exact decide_eq_false (by show ¬ c x x < 0; omega)
  trans x y z h1 h2 := decide_eq_true (h.tr x y z (of_decide_eq_true h1) (of_decide_eq_true h2))
  ntrans x y z h1 h2 := by
    have h1 : ¬ c x y < 0 := of_decide_eq_false h1
    have h2 : ¬ c y z < 0 := of_decide_eq_false h2
    refine decide_eq_false (show ¬ c x z < 0 from fun h3 => ?_)
    have e1 := h.swap x y
    by_cases hxy : c x y = 0
    · have := h.eq x y z hxy; omega
    · have := h.tr y x z (by omega) h3; omega
theorem Cmp.cons {α : Type} {c d : α → α → Int} (h : Cmp c) (k : Cmp d) : Cmp (fun x y => if c x y = 0 then d x y else c x y) where
  swap x y := by
    have h1 := h.swap x y
    have h2 := k.swap x y
    show (if c y x = 0 then d y x else c y x) = - (if c x y = 0 then d x y else c x y)
    by_cases e : c x y = 0
    · rw [if_pos e, if_pos (by omega)]; exact h2
    · rw [if_neg e, if_neg (by omega)]; exact h1
  tr x y z h1 h2 := by
    show (if c x z = 0 then d x z else c x z) < 0
    have h1 : (if c x y = 0 then d x y else c x y) < 0 := h1
    have h2 : (if c y z = 0 then d y z else c y z) < 0 := h2
    by_cases e1 : c x y = 0
    · rw [if_pos e1] at h1
      have e3 := h.eq x y z e1
      by_cases e2 : c y z = 0
      · rw [if_pos e2] at h2; rw [if_pos (by omega)]; exact k.tr x y z h1 h2
      · rw [if_neg e2] at h2; rw [if_neg (by omega)]; omega
    · rw [if_neg e1] at h1
      by_cases e2 : c y z = 0
      · have e3 := h.eqr x y z e2
        rw [if_neg (by omega)]; omega
      · rw [if_neg e2] at h2
        have := h.tr x y z h1 h2
        rw [if_neg (by omega)]; exact this
  eq x y z h1 := by
    have h1 : (if c x y = 0 then d x y else c x y) = 0 := h1
    show (if c x z = 0 then d x z else c x z) = (if c y z = 0 then d y z else c y z)
    by_cases e1 : c x y = 0
    · rw [if_pos e1] at h1
      rw [h.eq x y z e1, k.eq x y z h1]
    · rw [if_neg e1] at h1; exact absurd h1 e1
theorem Cmp.nil {α : Type} : Cmp (fun _ _ : α => 0) := ⟨fun _ _ => rfl, fun _ _ _ h => absurd h (by decide), fun _ _ _ _ => rfl⟩
theorem Cmp.on {α β : Type} {c : β → β → Int} (f : α → β) (h : Cmp c) : Cmp (fun x y => c (f x) (f y)) := ⟨fun x y => h.swap (f x) (f y), fun x y z => h.tr (f x) (f y) (f z), fun x y z => h.eq (f x) (f y) (f z)⟩
theorem cmp_int : Cmp cmpI := ⟨fun x y => by unfold cmpI; by_cases h1 : x < y <;> by_cases h2 : y < x <;> simp [h1, h2] <;> omega, fun x y z h1 h2 => by unfold cmpI at *; (repeat (split at h1)) <;> (repeat (split at h2)) <;> (repeat (split)) <;> omega, fun x y z h => by rw [cmpI_zero.1 h]⟩
theorem cmpb_lt (x y : UInt8) (xs ys : List UInt8) : Lib.compareBytes (x :: xs) (y :: ys) < 0 ↔ x.toNat < y.toNat ∨ (x.toNat = y.toNat ∧ Lib.compareBytes xs ys < 0) := by
  rw [Lib.compareBytes]
  by_cases a1 : x < y
  · rw [if_pos a1]
    have := UInt8.lt_iff_toNat_lt.1 a1
    constructor
    · intro _; exact .inl this
    · intro _; decide
  · have b1 : ¬ x.toNat < y.toNat := fun h => a1 (UInt8.lt_iff_toNat_lt.2 h)
    rw [if_neg a1]
    by_cases a2 : y < x
    · have := UInt8.lt_iff_toNat_lt.1 a2
      rw [if_pos a2]
      constructor
      · intro h; exact absurd h (by decide)
      · intro h; omega
    · have b2 : ¬ y.toNat < x.toNat := fun h => a2 (UInt8.lt_iff_toNat_lt.2 h)
      rw [if_neg a2]
      constructor
      · intro h; exact .inr ⟨by omega, h⟩
      · rintro (h | h)
        · omega
        · exact h.2
theorem cmp_bytes_tr : ∀ (a b c : List UInt8), Lib.compareBytes a b < 0 → Lib.compareBytes b c < 0 → Lib.compareBytes a c < 0
  | [], [], _, h, _ => by simp [Lib.compareBytes] at h
  | [], _ :: _, [], _, h => by simp [Lib.compareBytes] at h
  | [], _ :: _, _ :: _, _, _ => by simp [Lib.compareBytes]
  | _ :: _, [], _, h, _ => by simp [Lib.compareBytes] at h
  | _ :: _, _ :: _, [], _, h => by simp [Lib.compareBytes] at h
  | x :: xs, y :: ys, z :: zs, h1, h2 => by
    rw [cmpb_lt] at h1 h2 ⊢
    rcases h1 with h1 | h1
    · rcases h2 with h2 | h2
      · left; omega
      · left; omega
    · rcases h2 with h2 | h2
      · left; omega
      · right; exact ⟨by omega, cmp_bytes_tr xs ys zs h1.2 h2.2⟩
theorem cmp_bytes : Cmp Lib.compareBytes := ⟨cmp_swap, cmp_bytes_tr, fun x y z h => by rw [(cmp_zero x y).1 h]⟩
theorem orL_cons (a : Int) (l : List Int) : orL (a :: l) = if a = 0 then orL l else a := rfl
theorem ordF_cmp : Cmp ordF := by
  have := (cmp_bytes.on Fnd.host).cons ((cmp_int.on Fnd.machine).cons ((cmp_int.on Fnd.day).cons ((cmp_bytes.on Fnd.subj).cons ((cmp_int.on Fnd.kind).cons ((cmp_int.on Fnd.alg).cons ((cmp_int.on Fnd.bits).cons ((cmp_int.on Fnd.num).cons ((cmp_bytes.on Fnd.text).cons ((cmp_int.on Fnd.src).cons ((cmp_int.on Fnd.conf).cons (Cmp.nil (α := Fnd))))))))))))
  exact this
/-- A list sorted by a comparison, each before what is greater. -/
def SortedC {α : Type} (c : α → α → Int) (l : List α) : Prop := l.Pairwise fun x y => c x y ≤ 0
theorem sorted_uniq {α : Type} {c : α → α → Int} (hc : Cmp c) {l m : List α} (hp : l.Perm m) (h1 : SortedC c l) (h2 : SortedC c m) (h : ∀ x y, x ∈ l → y ∈ l → c x y = 0 → x = y) : l = m :=
  List.Perm.eq_of_pairwise (le := fun x y => c x y ≤ 0) (fun a b ha hb h3 h4 => h a b ha (hp.mem_iff.2 hb) (by have := hc.swap a b; omega)) h1 h2 hp
theorem sortL_spec {α : Type} [Inhabited α] {c : α → α → Int} (hc : Cmp c) {l st : List α} (h : SortL (fun p => c p.1 p.2) 0 (l.length : Nat) l st) : st.Perm l ∧ SortedC c st := by
  refine ⟨PermL.whole h.1, ?_⟩
  have hl := h.len
  unfold SortedC
  rw [List.pairwise_iff_getElem]
  intro i j hi hj hij
  have h1 := h.2 i j (by simp) hij (by simp; omega)
  have e1 : st.toArray[i]! = st[i] := by simp [hi]
  have e2 : st.toArray[j]! = st[j] := by simp [hj]
  rw [e1, e2] at h1
  have h2 : ¬ c st[j] st[i] < 0 := of_decide_eq_false h1
  have := hc.swap st[i] st[j]
  omega

end Go.Proofs.YthmnoekgicggnaaGreat
