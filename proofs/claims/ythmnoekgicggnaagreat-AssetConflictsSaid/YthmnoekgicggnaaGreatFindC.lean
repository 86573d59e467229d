/-
  What the functions named below compute, proved from their text; printed by a program of our own.
-/
import Derived.Test.YthmnoekgicggnaaGreatTypes
import Derived.Test.YthmnoekgicggnaaGreatSlices
import Derived.Test.YthmnoekgicggnaaGreatEqs
import Derived.Test.YthmnoekgicggnaaGreatCat
import Derived.Test.YthmnoekgicggnaaGreatCat2
import Derived.Test.YthmnoekgicggnaaGreatCat3
import Derived.Test.YthmnoekgicggnaaGreatCat5
import Derived.Test.YthmnoekgicggnaaGreatFindA
import Derived.Test.YthmnoekgicggnaaGreatFindB
namespace Go.Proofs.YthmnoekgicggnaaGreat
open Go Go.RowKit Cp
set_option maxRecDepth 20000 in
theorem w_Og3 {f : Fnd}  : Fun Tryz.prog 94 [agg (rowF f)] (str f.host) := by
  refine Fun.of Tryz.func94 rfl rfl (by exact Nat.le_of_ble_eq_true rfl) fun M0 w0 => ?_
  refine Tr.seq ?_
  refine Tr.reg0 ?_
  refine Ch.op rfl rfl (by decide) (ok_box rfl (VL.le (vl rfl) (agg_cellsP _))) ?_
  refine Ch.op rfl rfl (by decide) (ok_assign rfl (vl rfl)) ?_
  refine Ch.nil ?_
  refine Fin.go ?_
  refine Tr.seq ?_
  refine Tr.reg0 ?_
  refine Ch.op rfl rfl (by decide) (ok_fieldAddr rfl fo42_1 (vl rfl) rfl) ?_
  refine Ch.op rfl rfl (by decide) (ok_load1 rfl one9 (vl rfl)) ?_
  refine Ch.op rfl rfl (by decide) (ok_assign rfl (vl rfl)) ?_
  refine Ch.nil ?_
  refine Fin.go ?_
  refine Tr.ret ?_
  refine Fin.ret1 rfl (OutW.bse _ _) rfl ?_
  · first | exact Pr.le_refl _ | (refine int_eq ?_; simp_all; done) | (refine bool_eq ?_; simp_all; done) | (refine bool_eq ?_; simp_all; omega) | (refine int_eq ?_; omega)
theorem e_Og3 : Entry Tryz.prog 94 := ⟨_, Tryz.func94, rfl, rfl⟩
set_option maxRecDepth 20000 in
theorem w_Og4 {f : Fnd}  : Fun Tryz.prog 95 [agg (rowF f)] (int f.machine) := by
  refine Fun.of Tryz.func95 rfl rfl (by exact Nat.le_of_ble_eq_true rfl) fun M0 w0 => ?_
  refine Tr.seq ?_
  refine Tr.reg0 ?_
  refine Ch.op rfl rfl (by decide) (ok_box rfl (VL.le (vl rfl) (agg_cellsP _))) ?_
  refine Ch.op rfl rfl (by decide) (ok_assign rfl (vl rfl)) ?_
  refine Ch.nil ?_
  refine Fin.go ?_
  refine Tr.seq ?_
  refine Tr.reg0 ?_
  refine Ch.op rfl rfl (by decide) (ok_fieldAddr rfl fo42_2 (vl rfl) rfl) ?_
  refine Ch.op rfl rfl (by decide) (ok_load1 rfl one3 (vl rfl)) ?_
  refine Ch.op rfl rfl (by decide) (ok_assign rfl (vl rfl)) ?_
  refine Ch.nil ?_
  refine Fin.go ?_
  refine Tr.ret ?_
  refine Fin.ret1 rfl (OutW.bse _ _) rfl ?_
  · first | exact Pr.le_refl _ | (refine int_eq ?_; simp_all; done) | (refine bool_eq ?_; simp_all; done) | (refine bool_eq ?_; simp_all; omega) | (refine int_eq ?_; omega)
theorem e_Og4 : Entry Tryz.prog 95 := ⟨_, Tryz.func95, rfl, rfl⟩
set_option maxRecDepth 20000 in
theorem w_Og5 {f : Fnd}  : Fun Tryz.prog 96 [agg (rowF f)] (int f.day) := by
  refine Fun.of Tryz.func96 rfl rfl (by exact Nat.le_of_ble_eq_true rfl) fun M0 w0 => ?_
  refine Tr.seq ?_
  refine Tr.reg0 ?_
  refine Ch.op rfl rfl (by decide) (ok_box rfl (VL.le (vl rfl) (agg_cellsP _))) ?_
  refine Ch.op rfl rfl (by decide) (ok_assign rfl (vl rfl)) ?_
  refine Ch.nil ?_
  refine Fin.go ?_
  refine Tr.seq ?_
  refine Tr.reg0 ?_
  refine Ch.op rfl rfl (by decide) (ok_fieldAddr rfl fo42_3 (vl rfl) rfl) ?_
  refine Ch.op rfl rfl (by decide) (ok_load1 rfl one3 (vl rfl)) ?_
  refine Ch.op rfl rfl (by decide) (ok_assign rfl (vl rfl)) ?_
  refine Ch.nil ?_
  refine Fin.go ?_
  refine Tr.ret ?_
  refine Fin.ret1 rfl (OutW.bse _ _) rfl ?_
  · first | exact Pr.le_refl _ | (refine int_eq ?_; simp_all; done) | (refine bool_eq ?_; simp_all; done) | (refine bool_eq ?_; simp_all; omega) | (refine int_eq ?_; omega)
theorem e_Og5 : Entry Tryz.prog 96 := ⟨_, Tryz.func96, rfl, rfl⟩
set_option maxRecDepth 20000 in
theorem w_Og6 {f : Fnd}  : Fun Tryz.prog 97 [agg (rowF f)] (str f.subj) := by
  refine Fun.of Tryz.func97 rfl rfl (by exact Nat.le_of_ble_eq_true rfl) fun M0 w0 => ?_
  refine Tr.seq ?_
  refine Tr.reg0 ?_
  refine Ch.op rfl rfl (by decide) (ok_box rfl (VL.le (vl rfl) (agg_cellsP _))) ?_
  refine Ch.op rfl rfl (by decide) (ok_assign rfl (vl rfl)) ?_
  refine Ch.nil ?_
  refine Fin.go ?_
  refine Tr.seq ?_
  refine Tr.reg0 ?_
  refine Ch.op rfl rfl (by decide) (ok_fieldAddr rfl fo42_6 (vl rfl) rfl) ?_
  refine Ch.op rfl rfl (by decide) (ok_load1 rfl one9 (vl rfl)) ?_
  refine Ch.op rfl rfl (by decide) (ok_assign rfl (vl rfl)) ?_
  refine Ch.nil ?_
  refine Fin.go ?_
  refine Tr.ret ?_
  refine Fin.ret1 rfl (OutW.bse _ _) rfl ?_
  · first | exact Pr.le_refl _ | (refine int_eq ?_; simp_all; done) | (refine bool_eq ?_; simp_all; done) | (refine bool_eq ?_; simp_all; omega) | (refine int_eq ?_; omega)
theorem e_Og6 : Entry Tryz.prog 97 := ⟨_, Tryz.func97, rfl, rfl⟩
set_option maxRecDepth 20000 in
theorem w_Og7 {f : Fnd}  : Fun Tryz.prog 98 [agg (rowF f)] (int f.kind) := by
  refine Fun.of Tryz.func98 rfl rfl (by exact Nat.le_of_ble_eq_true rfl) fun M0 w0 => ?_
  refine Tr.seq ?_
  refine Tr.reg0 ?_
  refine Ch.op rfl rfl (by decide) (ok_box rfl (VL.le (vl rfl) (agg_cellsP _))) ?_
  refine Ch.op rfl rfl (by decide) (ok_assign rfl (vl rfl)) ?_
  refine Ch.nil ?_
  refine Fin.go ?_
  refine Tr.seq ?_
  refine Tr.reg0 ?_
  refine Ch.op rfl rfl (by decide) (ok_fieldAddr rfl fo42_5 (vl rfl) rfl) ?_
  refine Ch.op rfl rfl (by decide) (ok_load1 rfl one3 (vl rfl)) ?_
  refine Ch.op rfl rfl (by decide) (ok_assign rfl (vl rfl)) ?_
  refine Ch.nil ?_
  refine Fin.go ?_
  refine Tr.ret ?_
  refine Fin.ret1 rfl (OutW.bse _ _) rfl ?_
  · first | exact Pr.le_refl _ | (refine int_eq ?_; simp_all; done) | (refine bool_eq ?_; simp_all; done) | (refine bool_eq ?_; simp_all; omega) | (refine int_eq ?_; omega)
theorem e_Og7 : Entry Tryz.prog 98 := ⟨_, Tryz.func98, rfl, rfl⟩
set_option maxRecDepth 20000 in
theorem w_Og8 {f : Fnd}  : Fun Tryz.prog 99 [agg (rowF f)] (int f.alg) := by
  refine Fun.of Tryz.func99 rfl rfl (by exact Nat.le_of_ble_eq_true rfl) fun M0 w0 => ?_
  refine Tr.seq ?_
  refine Tr.reg0 ?_
  refine Ch.op rfl rfl (by decide) (ok_box rfl (VL.le (vl rfl) (agg_cellsP _))) ?_
  refine Ch.op rfl rfl (by decide) (ok_assign rfl (vl rfl)) ?_
  refine Ch.nil ?_
  refine Fin.go ?_
  refine Tr.seq ?_
  refine Tr.reg0 ?_
  refine Ch.op rfl rfl (by decide) (ok_fieldAddr rfl fo42_7 (vl rfl) rfl) ?_
  refine Ch.op rfl rfl (by decide) (ok_fieldAddr rfl fo38_0 (vl rfl) rfl) ?_
  refine Ch.op rfl rfl (by decide) (ok_load1 rfl one3 (vl rfl)) ?_
  refine Ch.op rfl rfl (by decide) (ok_assign rfl (vl rfl)) ?_
  refine Ch.nil ?_
  refine Fin.go ?_
  refine Tr.ret ?_
  refine Fin.ret1 rfl (OutW.bse _ _) rfl ?_
  · first | exact Pr.le_refl _ | (refine int_eq ?_; simp_all; done) | (refine bool_eq ?_; simp_all; done) | (refine bool_eq ?_; simp_all; omega) | (refine int_eq ?_; omega)
theorem e_Og8 : Entry Tryz.prog 99 := ⟨_, Tryz.func99, rfl, rfl⟩
set_option maxRecDepth 20000 in
theorem w_Og9 {f : Fnd}  : Fun Tryz.prog 100 [agg (rowF f)] (int f.bits) := by
  refine Fun.of Tryz.func100 rfl rfl (by exact Nat.le_of_ble_eq_true rfl) fun M0 w0 => ?_
  refine Tr.seq ?_
  refine Tr.reg0 ?_
  refine Ch.op rfl rfl (by decide) (ok_box rfl (VL.le (vl rfl) (agg_cellsP _))) ?_
  refine Ch.op rfl rfl (by decide) (ok_assign rfl (vl rfl)) ?_
  refine Ch.nil ?_
  refine Fin.go ?_
  refine Tr.seq ?_
  refine Tr.reg0 ?_
  refine Ch.op rfl rfl (by decide) (ok_fieldAddr rfl fo42_7 (vl rfl) rfl) ?_
  refine Ch.op rfl rfl (by decide) (ok_fieldAddr rfl fo38_1 (vl rfl) rfl) ?_
  refine Ch.op rfl rfl (by decide) (ok_load1 rfl one3 (vl rfl)) ?_
  refine Ch.op rfl rfl (by decide) (ok_assign rfl (vl rfl)) ?_
  refine Ch.nil ?_
  refine Fin.go ?_
  refine Tr.ret ?_
  refine Fin.ret1 rfl (OutW.bse _ _) rfl ?_
  · first | exact Pr.le_refl _ | (refine int_eq ?_; simp_all; done) | (refine bool_eq ?_; simp_all; done) | (refine bool_eq ?_; simp_all; omega) | (refine int_eq ?_; omega)
theorem e_Og9 : Entry Tryz.prog 100 := ⟨_, Tryz.func100, rfl, rfl⟩
set_option maxRecDepth 20000 in
theorem w_Og10 {f : Fnd}  : Fun Tryz.prog 101 [agg (rowF f)] (int f.num) := by
  refine Fun.of Tryz.func101 rfl rfl (by exact Nat.le_of_ble_eq_true rfl) fun M0 w0 => ?_
  refine Tr.seq ?_
  refine Tr.reg0 ?_
  refine Ch.op rfl rfl (by decide) (ok_box rfl (VL.le (vl rfl) (agg_cellsP _))) ?_
  refine Ch.op rfl rfl (by decide) (ok_assign rfl (vl rfl)) ?_
  refine Ch.nil ?_
  refine Fin.go ?_
  refine Tr.seq ?_
  refine Tr.reg0 ?_
  refine Ch.op rfl rfl (by decide) (ok_fieldAddr rfl fo42_8 (vl rfl) rfl) ?_
  refine Ch.op rfl rfl (by decide) (ok_load1 rfl one3 (vl rfl)) ?_
  refine Ch.op rfl rfl (by decide) (ok_assign rfl (vl rfl)) ?_
  refine Ch.nil ?_
  refine Fin.go ?_
  refine Tr.ret ?_
  refine Fin.ret1 rfl (OutW.bse _ _) rfl ?_
  · first | exact Pr.le_refl _ | (refine int_eq ?_; simp_all; done) | (refine bool_eq ?_; simp_all; done) | (refine bool_eq ?_; simp_all; omega) | (refine int_eq ?_; omega)
theorem e_Og10 : Entry Tryz.prog 101 := ⟨_, Tryz.func101, rfl, rfl⟩
set_option maxRecDepth 20000 in
theorem w_Og11 {f : Fnd}  : Fun Tryz.prog 102 [agg (rowF f)] (str f.text) := by
  refine Fun.of Tryz.func102 rfl rfl (by exact Nat.le_of_ble_eq_true rfl) fun M0 w0 => ?_
  refine Tr.seq ?_
  refine Tr.reg0 ?_
  refine Ch.op rfl rfl (by decide) (ok_box rfl (VL.le (vl rfl) (agg_cellsP _))) ?_
  refine Ch.op rfl rfl (by decide) (ok_assign rfl (vl rfl)) ?_
  refine Ch.nil ?_
  refine Fin.go ?_
  refine Tr.seq ?_
  refine Tr.reg0 ?_
  refine Ch.op rfl rfl (by decide) (ok_fieldAddr rfl fo42_9 (vl rfl) rfl) ?_
  refine Ch.op rfl rfl (by decide) (ok_load1 rfl one9 (vl rfl)) ?_
  refine Ch.op rfl rfl (by decide) (ok_assign rfl (vl rfl)) ?_
  refine Ch.nil ?_
  refine Fin.go ?_
  refine Tr.ret ?_
  refine Fin.ret1 rfl (OutW.bse _ _) rfl ?_
  · first | exact Pr.le_refl _ | (refine int_eq ?_; simp_all; done) | (refine bool_eq ?_; simp_all; done) | (refine bool_eq ?_; simp_all; omega) | (refine int_eq ?_; omega)
theorem e_Og11 : Entry Tryz.prog 102 := ⟨_, Tryz.func102, rfl, rfl⟩
set_option maxRecDepth 20000 in
theorem w_Og12 {f : Fnd}  : Fun Tryz.prog 103 [agg (rowF f)] (int f.src) := by
  refine Fun.of Tryz.func103 rfl rfl (by exact Nat.le_of_ble_eq_true rfl) fun M0 w0 => ?_
  refine Tr.seq ?_
  refine Tr.reg0 ?_
  refine Ch.op rfl rfl (by decide) (ok_box rfl (VL.le (vl rfl) (agg_cellsP _))) ?_
  refine Ch.op rfl rfl (by decide) (ok_assign rfl (vl rfl)) ?_
  refine Ch.nil ?_
  refine Fin.go ?_
  refine Tr.seq ?_
  refine Tr.reg0 ?_
  refine Ch.op rfl rfl (by decide) (ok_fieldAddr rfl fo42_0 (vl rfl) rfl) ?_
  refine Ch.op rfl rfl (by decide) (ok_load1 rfl one3 (vl rfl)) ?_
  refine Ch.op rfl rfl (by decide) (ok_assign rfl (vl rfl)) ?_
  refine Ch.nil ?_
  refine Fin.go ?_
  refine Tr.ret ?_
  refine Fin.ret1 rfl (OutW.bse _ _) rfl ?_
  · first | exact Pr.le_refl _ | (refine int_eq ?_; simp_all; done) | (refine bool_eq ?_; simp_all; done) | (refine bool_eq ?_; simp_all; omega) | (refine int_eq ?_; omega)
theorem e_Og12 : Entry Tryz.prog 103 := ⟨_, Tryz.func103, rfl, rfl⟩
set_option maxRecDepth 20000 in
theorem w_Og13 {f : Fnd}  : Fun Tryz.prog 104 [agg (rowF f)] (int f.conf) := by
  refine Fun.of Tryz.func104 rfl rfl (by exact Nat.le_of_ble_eq_true rfl) fun M0 w0 => ?_
  refine Tr.seq ?_
  refine Tr.reg0 ?_
  refine Ch.op rfl rfl (by decide) (ok_box rfl (VL.le (vl rfl) (agg_cellsP _))) ?_
  refine Ch.op rfl rfl (by decide) (ok_assign rfl (vl rfl)) ?_
  refine Ch.nil ?_
  refine Fin.go ?_
  refine Tr.seq ?_
  refine Tr.reg0 ?_
  refine Ch.op rfl rfl (by decide) (ok_fieldAddr rfl fo42_4 (vl rfl) rfl) ?_
  refine Ch.op rfl rfl (by decide) (ok_load1 rfl one3 (vl rfl)) ?_
  refine Ch.op rfl rfl (by decide) (ok_assign rfl (vl rfl)) ?_
  refine Ch.nil ?_
  refine Fin.go ?_
  refine Tr.ret ?_
  refine Fin.ret1 rfl (OutW.bse _ _) rfl ?_
  · first | exact Pr.le_refl _ | (refine int_eq ?_; simp_all; done) | (refine bool_eq ?_; simp_all; done) | (refine bool_eq ?_; simp_all; omega) | (refine int_eq ?_; omega)
theorem e_Og13 : Entry Tryz.prog 104 := ⟨_, Tryz.func104, rfl, rfl⟩
set_option maxRecDepth 20000 in
theorem w_O11 {g : Fnd → Int} {a b : Fnd}  : Fun Tryz.prog 91 [ref [clo Tryz.prog (fun f : Fnd => [agg (rowF f)]) (fun f => int (g f))], ref (rowF a), ref (rowF b)] (int (cmpI (g a) (g b))) := by
  refine Fun.of Tryz.func91 rfl rfl (by exact Nat.le_of_ble_eq_true rfl) fun M0 w0 => ?_
  refine Tr.seq ?_
  refine Tr.reg0 ?_
  refine Ch.op rfl rfl (by decide) (ok_assign rfl (vl rfl)) ?_
  refine Ch.nil ?_
  refine Fin.go ?_
  refine Tr.seq ?_
  refine Tr.reg1 mixed (by kernel_rfl) ?_
  refine Ch.op rfl rfl (by decide) (ok_load1 rfl one122 (vl rfl)) ?_
  refine Ch.op rfl rfl (by decide) (ok_loadA rfl agg42 sz42 (vl rfl) rfl rfl) ?_
  refine Ch.op rfl rfl (by decide) (ok_callc a rfl (vl rfl) ⟨⟨_, rfl, Pr.le_refl _⟩, trivial⟩) ?_
  refine Ch.op rfl rfl (by decide) (ok_load1 rfl one122 (vl rfl)) ?_
  refine Ch.op rfl rfl (by decide) (ok_loadA rfl agg42 sz42 (vl rfl) rfl rfl) ?_
  refine Ch.op rfl rfl (by decide) (ok_callc b rfl (vl rfl) ⟨⟨_, rfl, Pr.le_refl _⟩, trivial⟩) ?_
  refine Ch.op rfl rfl (by decide) (ok_call rfl (w_cmpI) ⟨⟨_, rfl, Pr.le_refl _⟩, ⟨_, rfl, Pr.le_refl _⟩, trivial⟩) ?_
  refine Ch.op rfl rfl (by decide) (ok_assign rfl (vl rfl)) ?_
  refine Ch.nil ?_
  refine Fin.go ?_
  refine Tr.ret ?_
  refine Fin.ret1 rfl (OutW.bse _ _) rfl ?_
  · first | exact Pr.le_refl _ | (refine int_eq ?_; simp_all; done) | (refine bool_eq ?_; simp_all; done) | (refine bool_eq ?_; simp_all; omega) | (refine int_eq ?_; omega)
theorem e_O11 : Entry Tryz.prog 91 := ⟨_, Tryz.func91, rfl, rfl⟩
set_option maxRecDepth 20000 in
theorem w_O21 {g : Fnd → List UInt8} {a b : Fnd}  : Fun Tryz.prog 93 [ref [clo Tryz.prog (fun f : Fnd => [agg (rowF f)]) (fun f => str (g f))], ref (rowF a), ref (rowF b)] (int (Lib.compareBytes (g a) (g b))) := by
  refine Fun.of Tryz.func93 rfl rfl (by exact Nat.le_of_ble_eq_true rfl) fun M0 w0 => ?_
  refine Tr.seq ?_
  refine Tr.reg0 ?_
  refine Ch.op rfl rfl (by decide) (ok_assign rfl (vl rfl)) ?_
  refine Ch.nil ?_
  refine Fin.go ?_
  refine Tr.seq ?_
  refine Tr.reg1 mixed (by kernel_rfl) ?_
  refine Ch.op rfl rfl (by decide) (ok_load1 rfl one125 (vl rfl)) ?_
  refine Ch.op rfl rfl (by decide) (ok_loadA rfl agg42 sz42 (vl rfl) rfl rfl) ?_
  refine Ch.op rfl rfl (by decide) (ok_callc a rfl (vl rfl) ⟨⟨_, rfl, Pr.le_refl _⟩, trivial⟩) ?_
  refine Ch.op rfl rfl (by decide) (ok_load1 rfl one125 (vl rfl)) ?_
  refine Ch.op rfl rfl (by decide) (ok_loadA rfl agg42 sz42 (vl rfl) rfl rfl) ?_
  refine Ch.op rfl rfl (by decide) (ok_callc b rfl (vl rfl) ⟨⟨_, rfl, Pr.le_refl _⟩, trivial⟩) ?_
  refine Ch.op rfl rfl (by decide) (ok_call rfl (w_cmpS) ⟨⟨_, rfl, Pr.le_refl _⟩, ⟨_, rfl, Pr.le_refl _⟩, trivial⟩) ?_
  refine Ch.op rfl rfl (by decide) (ok_assign rfl (vl rfl)) ?_
  refine Ch.nil ?_
  refine Fin.go ?_
  refine Tr.ret ?_
  refine Fin.ret1 rfl (OutW.bse _ _) rfl ?_
  · first | exact Pr.le_refl _ | (refine int_eq ?_; simp_all; done) | (refine bool_eq ?_; simp_all; done) | (refine bool_eq ?_; simp_all; omega) | (refine int_eq ?_; omega)
theorem e_O21 : Entry Tryz.prog 93 := ⟨_, Tryz.func93, rfl, rfl⟩
set_option maxRecDepth 20000 in
theorem w_O1 {g : Fnd → Int} {a b : Fnd}  : Fun Tryz.prog 90 [clo Tryz.prog (fun f : Fnd => [agg (rowF f)]) (fun f => int (g f)), ref (rowF a), ref (rowF b)] (clo Tryz.prog (fun _ : Unit => []) (fun _ => int (cmpI (g a) (g b)))) := by
  refine Fun.of Tryz.func90 rfl rfl (by exact Nat.le_of_ble_eq_true rfl) fun M0 w0 => ?_
  refine Tr.seq ?_
  refine Tr.reg0 ?_
  refine Ch.op rfl rfl (by decide) (ok_box rfl (VL.le (vl rfl) (one_cellsP _))) ?_
  refine Ch.op rfl rfl (by decide) (ok_assign rfl (vl rfl)) ?_
  refine Ch.nil ?_
  refine Fin.go ?_
  refine Tr.seq ?_
  refine Tr.reg0 ?_
  refine Ch.op rfl rfl (by decide) (ok_makeFunc rfl rfl) ?_
  refine Ch.op rfl rfl (by decide) (ok_assign rfl (vl rfl)) ?_
  refine Ch.nil ?_
  refine Fin.go ?_
  refine Tr.ret ?_
  refine Fin.ret1 rfl (OutW.bse _ _) rfl ?_
  · exact fn_le_clo e_O11 (fun _ => w_O11)
theorem e_O1 : Entry Tryz.prog 90 := ⟨_, Tryz.func90, rfl, rfl⟩
set_option maxRecDepth 20000 in
theorem w_O2 {g : Fnd → List UInt8} {a b : Fnd}  : Fun Tryz.prog 92 [clo Tryz.prog (fun f : Fnd => [agg (rowF f)]) (fun f => str (g f)), ref (rowF a), ref (rowF b)] (clo Tryz.prog (fun _ : Unit => []) (fun _ => int (Lib.compareBytes (g a) (g b)))) := by
  refine Fun.of Tryz.func92 rfl rfl (by exact Nat.le_of_ble_eq_true rfl) fun M0 w0 => ?_
  refine Tr.seq ?_
  refine Tr.reg0 ?_
  refine Ch.op rfl rfl (by decide) (ok_box rfl (VL.le (vl rfl) (one_cellsP _))) ?_
  refine Ch.op rfl rfl (by decide) (ok_assign rfl (vl rfl)) ?_
  refine Ch.nil ?_
  refine Fin.go ?_
  refine Tr.seq ?_
  refine Tr.reg0 ?_
  refine Ch.op rfl rfl (by decide) (ok_makeFunc rfl rfl) ?_
  refine Ch.op rfl rfl (by decide) (ok_assign rfl (vl rfl)) ?_
  refine Ch.nil ?_
  refine Fin.go ?_
  refine Tr.ret ?_
  refine Fin.ret1 rfl (OutW.bse _ _) rfl ?_
  · exact fn_le_clo e_O21 (fun _ => w_O21)
theorem e_O2 : Entry Tryz.prog 92 := ⟨_, Tryz.func92, rfl, rfl⟩

theorem ordF_hit {a b : Fnd} {k : Nat} {x : Int} (hx : (keysF a b)[k]? = some x) (h0 : ¬ x = 0) (h : ∀ j y, j < k → (keysF a b)[j]? = some y → (y != 0) = false) : x = ordF a b := by
  have := orF_hit hx h0 h; rw [orL_orF] at this; exact this
theorem ordF_none {a b : Fnd} (h : ∀ j y, j < (keysF a b).length → (keysF a b)[j]? = some y → (y != 0) = false) : 0 = ordF a b := by
  have := orF_none h; rw [orL_orF] at this; exact this

set_option maxRecDepth 20000 in
theorem w_FOrder {a b : Fnd}  : Fun Tryz.prog 64 [agg (rowF a), agg (rowF b)] (int (ordF a b)) := by
  refine Fun.of Tryz.func64 rfl rfl (by exact Nat.le_of_ble_eq_true rfl) fun M0 w0 => ?_
  refine Tr.seq ?_
  refine Tr.reg0 ?_
  refine Ch.op rfl rfl (by decide) (ok_box rfl (VL.le (vl rfl) (agg_cellsP _))) ?_
  refine Ch.op rfl rfl (by decide) (ok_box rfl (VL.le (vl rfl) (agg_cellsP _))) ?_
  refine Ch.op rfl rfl (by decide) (ok_assign rfl (vl rfl)) ?_
  refine Ch.nil ?_
  refine Fin.go ?_
  refine Tr.seq ?_
  refine Tr.reg0 ?_
  refine Ch.op rfl rfl (by decide) (ok_makeFunc rfl rfl) ?_
  refine Ch.op rfl rfl (by decide) (ok_assign rfl (vl rfl)) ?_
  refine Ch.nil ?_
  refine Fin.go ?_
  refine Tr.seq ?_
  refine Tr.reg0 ?_
  refine Ch.op rfl rfl (by decide) (ok_makeFunc rfl rfl) ?_
  refine Ch.op rfl rfl (by decide) (ok_assign rfl (vl rfl)) ?_
  refine Ch.nil ?_
  refine Fin.go ?_
  refine Tr.seq ?_
  refine Tr.seq ?_
  refine Tr.re 5 rfl (fn_le_clo (dom := fun g : Fnd → Int => [clo Tryz.prog (fun f : Fnd => [agg (rowF f)]) (fun f => int (g f))]) (res := fun g => clo Tryz.prog (fun _ : Unit => []) (fun _ => int (cmpI (g a) (g b)))) e_O1 (fun g => w_O1 (g := g) (a := a) (b := b))) ?_
  refine Tr.re 6 rfl (fn_le_clo (dom := fun g : Fnd → List UInt8 => [clo Tryz.prog (fun f : Fnd => [agg (rowF f)]) (fun f => str (g f))]) (res := fun g => clo Tryz.prog (fun _ : Unit => []) (fun _ => int (Lib.compareBytes (g a) (g b)))) e_O2 (fun g => w_O2 (g := g) (a := a) (b := b))) ?_
  refine Tr.reg0 ?_
  refine Ch.op rfl rfl (by decide) (ok_move rfl (vl rfl)) ?_
  refine Ch.op rfl rfl (by decide) (ok_callc (fun f : Fnd => f.host) rfl (vl rfl) ⟨⟨_, rfl, fn_le_clo (dom := fun f : Fnd => [agg (rowF f)]) (res := fun f => str f.host) e_Og3 (fun f => w_Og3 (f := f))⟩, trivial⟩) ?_
  refine Ch.op rfl rfl (by decide) (ok_move rfl (vl rfl)) ?_
  refine Ch.op rfl rfl (by decide) (ok_callc (fun f : Fnd => f.machine) rfl (vl rfl) ⟨⟨_, rfl, fn_le_clo (dom := fun f : Fnd => [agg (rowF f)]) (res := fun f => int f.machine) e_Og4 (fun f => w_Og4 (f := f))⟩, trivial⟩) ?_
  refine Ch.op rfl rfl (by decide) (ok_move rfl (vl rfl)) ?_
  refine Ch.op rfl rfl (by decide) (ok_callc (fun f : Fnd => f.day) rfl (vl rfl) ⟨⟨_, rfl, fn_le_clo (dom := fun f : Fnd => [agg (rowF f)]) (res := fun f => int f.day) e_Og5 (fun f => w_Og5 (f := f))⟩, trivial⟩) ?_
  refine Ch.op rfl rfl (by decide) (ok_move rfl (vl rfl)) ?_
  refine Ch.op rfl rfl (by decide) (ok_callc (fun f : Fnd => f.subj) rfl (vl rfl) ⟨⟨_, rfl, fn_le_clo (dom := fun f : Fnd => [agg (rowF f)]) (res := fun f => str f.subj) e_Og6 (fun f => w_Og6 (f := f))⟩, trivial⟩) ?_
  refine Ch.op rfl rfl (by decide) (ok_move rfl (vl rfl)) ?_
  refine Ch.op rfl rfl (by decide) (ok_callc (fun f : Fnd => f.kind) rfl (vl rfl) ⟨⟨_, rfl, fn_le_clo (dom := fun f : Fnd => [agg (rowF f)]) (res := fun f => int f.kind) e_Og7 (fun f => w_Og7 (f := f))⟩, trivial⟩) ?_
  refine Ch.op rfl rfl (by decide) (ok_move rfl (vl rfl)) ?_
  refine Ch.op rfl rfl (by decide) (ok_callc (fun f : Fnd => f.alg) rfl (vl rfl) ⟨⟨_, rfl, fn_le_clo (dom := fun f : Fnd => [agg (rowF f)]) (res := fun f => int f.alg) e_Og8 (fun f => w_Og8 (f := f))⟩, trivial⟩) ?_
  refine Ch.op rfl rfl (by decide) (ok_move rfl (vl rfl)) ?_
  refine Ch.op rfl rfl (by decide) (ok_callc (fun f : Fnd => f.bits) rfl (vl rfl) ⟨⟨_, rfl, fn_le_clo (dom := fun f : Fnd => [agg (rowF f)]) (res := fun f => int f.bits) e_Og9 (fun f => w_Og9 (f := f))⟩, trivial⟩) ?_
  refine Ch.op rfl rfl (by decide) (ok_move rfl (vl rfl)) ?_
  refine Ch.op rfl rfl (by decide) (ok_callc (fun f : Fnd => f.num) rfl (vl rfl) ⟨⟨_, rfl, fn_le_clo (dom := fun f : Fnd => [agg (rowF f)]) (res := fun f => int f.num) e_Og10 (fun f => w_Og10 (f := f))⟩, trivial⟩) ?_
  refine Ch.op rfl rfl (by decide) (ok_move rfl (vl rfl)) ?_
  refine Ch.op rfl rfl (by decide) (ok_callc (fun f : Fnd => f.text) rfl (vl rfl) ⟨⟨_, rfl, fn_le_clo (dom := fun f : Fnd => [agg (rowF f)]) (res := fun f => str f.text) e_Og11 (fun f => w_Og11 (f := f))⟩, trivial⟩) ?_
  refine Ch.op rfl rfl (by decide) (ok_move rfl (vl rfl)) ?_
  refine Ch.op rfl rfl (by decide) (ok_callc (fun f : Fnd => f.src) rfl (vl rfl) ⟨⟨_, rfl, fn_le_clo (dom := fun f : Fnd => [agg (rowF f)]) (res := fun f => int f.src) e_Og12 (fun f => w_Og12 (f := f))⟩, trivial⟩) ?_
  refine Ch.op rfl rfl (by decide) (ok_move rfl (vl rfl)) ?_
  refine Ch.op rfl rfl (by decide) (ok_callc (fun f : Fnd => f.conf) rfl (vl rfl) ⟨⟨_, rfl, fn_le_clo (dom := fun f : Fnd => [agg (rowF f)]) (res := fun f => int f.conf) e_Og13 (fun f => w_Og13 (f := f))⟩, trivial⟩) ?_
  refine Ch.op rfl rfl (by decide) (ok_buildSlice (xs := [.tmp 13, .tmp 15, .tmp 17, .tmp 19, .tmp 21, .tmp 23, .tmp 25, .tmp 27, .tmp 29, .tmp 31, .tmp 33]) (rows := [[_], [_], [_], [_], [_], [_], [_], [_], [_], [_], [_]]) rfl rfl Tryz.underlying127 sz123 z123 rfl (by decide) ⟨⟨(by exact rfl), (VL.le (vl rfl) (one_cellsP _))⟩, ⟨⟨(by exact rfl), (VL.le (vl rfl) (one_cellsP _))⟩, ⟨⟨(by exact rfl), (VL.le (vl rfl) (one_cellsP _))⟩, ⟨⟨(by exact rfl), (VL.le (vl rfl) (one_cellsP _))⟩, ⟨⟨(by exact rfl), (VL.le (vl rfl) (one_cellsP _))⟩, ⟨⟨(by exact rfl), (VL.le (vl rfl) (one_cellsP _))⟩, ⟨⟨(by exact rfl), (VL.le (vl rfl) (one_cellsP _))⟩, ⟨⟨(by exact rfl), (VL.le (vl rfl) (one_cellsP _))⟩, ⟨⟨(by exact rfl), (VL.le (vl rfl) (one_cellsP _))⟩, ⟨⟨(by exact rfl), (VL.le (vl rfl) (one_cellsP _))⟩, ⟨⟨(by exact rfl), (VL.le (vl rfl) (one_cellsP _))⟩, trivial⟩⟩⟩⟩⟩⟩⟩⟩⟩⟩⟩ (by decide)) ?_
  first
    | refine Ch.op rfl rfl (by decide) (ok_lenm rfl Tryz.underlying127 ⟨_, rfl, full_le _ _⟩) ?_
    | refine Ch.op rfl rfl (by decide) (ok_len rfl Tryz.underlying127 ⟨_, rfl, full_le _ _⟩) ?_
  refine Ch.op rfl rfl (by decide) (ok_move rfl (vl rfl)) ?_
  refine Ch.nil ?_
  refine Fin.go ?_
  refine Tr.weak [(34, _), (35, _), (36, _)] ⟨⟨_, rfl, Pr.le_refl _⟩, ⟨_, rfl, Pr.le_refl _⟩, ⟨_, rfl, Pr.le_refl _⟩, trivial⟩ ?_
  refine Tr.block ?_
  refine Tr.re 34 rfl (Pr.le_trans (full_le _ _) (Pr.le_of_eq (show _ = slice 1 ((keysF a b).map fun k => [clo Tryz.prog (fun _ : Unit => []) (fun _ => int (k))]) from rfl))) ?_
  refine Tr.re 35 rfl (int_eq (b := (((keysF a b).length : Nat) : Int)) rfl) ?_
  refine Tr.loopw [(34, _), (35, _)] ⟨⟨_, rfl, Pr.le_refl _⟩, ⟨_, rfl, Pr.le_refl _⟩, trivial⟩ (fun k : Nat => [(36, int ((k : Nat) : Int))]) (fun k : Nat => k ≤ (keysF a b).length ∧ (∀ j y, j < k → (keysF a b)[j]? = some y → (y != 0) = false)) (fun k : Nat => (keysF a b).length - k) 0 (⟨Nat.zero_le _, fun j y hj => absurd hj (by omega)⟩) ⟨⟨_, rfl, Pr.le_refl _⟩, trivial⟩ ?_
  rintro k ⟨hle_k, hinv_k⟩
  refine Tr.seq ?_
  refine Tr.reg0 ?_
  refine Ch.op rfl rfl (by decide) (ok_int rfl (vl rfl) (vl rfl) rfl) ?_
  refine Ch.nil ?_
  refine Fin.go ?_
  refine Tr.seq ?_
  refine Tr.cond rfl (fun h1 => ?_) (fun h1 => ?_)
  ·
    have q1 := Nrm.nrm h1
    have hk_k : k < (keysF a b).length := lt_of_dec h1
    obtain ⟨x, hx_k⟩ := at_ hk_k
    have hL : k < 11 := hk_k
    refine Tr.skip ?_
    refine Fin.go ?_
    refine Tr.seq ?_
    refine Tr.block ?_
    refine Tr.seq ?_
    refine Tr.reg0 ?_
    refine Ch.op rfl rfl (by decide) (ok_indexAddr rfl Tryz.underlying127 sz123 (vl rfl) (vl rfl) (by omega) (row_at (f := fun k => [clo Tryz.prog (fun _ : Unit => []) (fun _ => int (k))]) hx_k)) ?_
    refine Ch.op rfl rfl (by decide) (ok_load1 rfl one123 (vl rfl)) ?_
    refine Ch.op rfl rfl (by decide) (ok_assign rfl (vl rfl)) ?_
    refine Ch.nil ?_
    refine Fin.go ?_
    refine Tr.seq ?_
    refine Tr.reg0 ?_
    refine Ch.op rfl rfl (by decide) (ok_move rfl (vl rfl)) ?_
    refine Ch.op rfl rfl (by decide) (ok_callc () rfl (vl rfl) trivial) ?_
    refine Ch.op rfl rfl (by decide) (ok_assign rfl (vl rfl)) ?_
    refine Ch.nil ?_
    refine Fin.go ?_
    refine Tr.seq ?_
    refine Tr.reg0 ?_
    refine Ch.op rfl rfl (by decide) (ok_move rfl (vl rfl)) ?_
    refine Ch.op rfl rfl (by decide) (ok_int rfl (vl rfl) (vl rfl) rfl) ?_
    refine Ch.nil ?_
    refine Fin.go ?_
    refine Tr.cond rfl (fun h2 => ?_) (fun h2 => ?_)
    ·
      have q2 := Nrm.nrm h2
      refine Tr.seq ?_
      refine Tr.reg0 ?_
      refine Ch.op rfl rfl (by decide) (ok_move rfl (vl rfl)) ?_
      refine Ch.op rfl rfl (by decide) (ok_assign rfl (vl rfl)) ?_
      refine Ch.nil ?_
      refine Fin.go ?_
      refine Tr.weak [(4, _)] ⟨⟨_, rfl, Pr.le_refl _⟩, trivial⟩ ?_
      refine Tr.ret ?_
      refine Fin.block_ret ?_
      refine Fin.then_ret ?_
      refine Fin.then_ret ?_
      refine Fin.block_ret ?_
      refine Fin.then_ret ?_
      refine Fin.ret1 rfl (OutW.bse _ _) rfl ?_
      · exact int_eq (ordF_hit hx_k (by assumption) hinv_k)
    ·
      have q2 := Nrm.nrm h2
      refine Tr.skip ?_
      refine Fin.block ?_
      refine Fin.go ?_
      refine Tr.reg0 ?_
      first
        | (refine Ch.op rfl rfl (by decide) (ok_add rfl (vl rfl) (vl rfl) ?hin) ?_; case hin => unfold InI; omega)
        | refine Ch.op rfl rfl (by decide) (ok_int rfl (vl rfl) (vl rfl) rfl) ?_
      refine Ch.op rfl rfl (by decide) (ok_move rfl (vl rfl)) ?_
      refine Ch.nil ?_
      exact Fin.fam_same (k + 1) ⟨⟨hk_k, step_no (p := fun y => y != 0) hx_k (by simpa using by assumption) hinv_k⟩, by omega⟩ ⟨⟨_, rfl, int_succ k⟩, ⟨_, rfl, Pr.le_refl _⟩, ⟨_, rfl, Pr.le_refl _⟩, trivial⟩
  ·
    have q1 := Nrm.nrm h1
    have he_k : k = (keysF a b).length := by have := ge_of_dec h1; omega
    subst he_k
    refine Tr.exit ?_
    refine Fin.then_exit ?_
    refine Fin.then_exit ?_
    refine Fin.block_here ?_
    refine Fin.go ?_
    refine Tr.seq ?_
    refine Tr.reg0 ?_
    refine Ch.op rfl rfl (by decide) (ok_assign rfl (vl rfl)) ?_
    refine Ch.nil ?_
    refine Fin.go ?_
    refine Tr.ret ?_
    refine Fin.ret1 rfl (OutW.bse _ _) rfl ?_
    · exact int_eq (ordF_none hinv_k)
theorem e_FOrder : Entry Tryz.prog 64 := ⟨_, Tryz.func64, rfl, rfl⟩
end Go.Proofs.YthmnoekgicggnaaGreat
