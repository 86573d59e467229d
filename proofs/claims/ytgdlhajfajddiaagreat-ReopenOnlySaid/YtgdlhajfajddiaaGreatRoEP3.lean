/-
  Part 3 of the texts that prove this claim, merged.
-/
import Derived.Laws.IdiomRangeMap
import Derived.Sort.LotA
import Derived.Sort.LotB
import Derived.Sort.LotC
import Derived.Test.YtgdlhajfajddiaaGreatRoEP2
set_option linter.all false
namespace Go.Proofs.YtgdlhajfajddiaaGreat
open Go Go.RowKit Cp
set_option maxRecDepth 20000 in
theorem w_Og3 {f : Fnd}  : Fun Tryz.prog 136 [agg (rowF f)] (str f.host) := by
 refine Fun.of Tryz.func136 rfl rfl (by exact Nat.le_of_ble_eq_true rfl) fun M0 w0 => ?_
 refine Tr.seq (Tr.reg0 (co rfl (ok_box rfl (VL.le (vl rfl) (agg_cellsP _))) (cm rfl (Ch.nil (Fin.go (Tr.seq (Tr.reg0 (co rfl (kfa rfl fo26_1 rfl rfl) (co rfl (kl1 rfl one9 rfl) (cm rfl (Ch.nil (Fin.go (Tr.ret (Fin.ret1 rfl (OutW.bse _ _) rfl ?_))))))))))))))
 · exact Pr.le_refl _
theorem e_Og3 : Entry Tryz.prog 136 := ⟨_, Tryz.func136, rfl, rfl⟩
set_option maxRecDepth 20000 in
theorem w_Og4 {f : Fnd}  : Fun Tryz.prog 137 [agg (rowF f)] (int f.machine) := by
 refine Fun.of Tryz.func137 rfl rfl (by exact Nat.le_of_ble_eq_true rfl) fun M0 w0 => ?_
 refine Tr.seq (Tr.reg0 (co rfl (ok_box rfl (VL.le (vl rfl) (agg_cellsP _))) (cm rfl (Ch.nil (Fin.go (Tr.seq (Tr.reg0 (co rfl (kfa rfl fo26_2 rfl rfl) (co rfl (kl1 rfl one3 rfl) (cm rfl (Ch.nil (Fin.go (Tr.ret (Fin.ret1 rfl (OutW.bse _ _) rfl ?_))))))))))))))
 · exact Pr.le_refl _
theorem e_Og4 : Entry Tryz.prog 137 := ⟨_, Tryz.func137, rfl, rfl⟩
set_option maxRecDepth 20000 in
theorem w_Og5 {f : Fnd}  : Fun Tryz.prog 138 [agg (rowF f)] (int f.day) := by
 refine Fun.of Tryz.func138 rfl rfl (by exact Nat.le_of_ble_eq_true rfl) fun M0 w0 => ?_
 refine Tr.seq (Tr.reg0 (co rfl (ok_box rfl (VL.le (vl rfl) (agg_cellsP _))) (cm rfl (Ch.nil (Fin.go (Tr.seq (Tr.reg0 (co rfl (kfa rfl fo26_3 rfl rfl) (co rfl (kl1 rfl one3 rfl) (cm rfl (Ch.nil (Fin.go (Tr.ret (Fin.ret1 rfl (OutW.bse _ _) rfl ?_))))))))))))))
 · exact Pr.le_refl _
theorem e_Og5 : Entry Tryz.prog 138 := ⟨_, Tryz.func138, rfl, rfl⟩
set_option maxRecDepth 20000 in
theorem w_Og6 {f : Fnd}  : Fun Tryz.prog 139 [agg (rowF f)] (str f.subj) := by
 refine Fun.of Tryz.func139 rfl rfl (by exact Nat.le_of_ble_eq_true rfl) fun M0 w0 => ?_
 refine Tr.seq (Tr.reg0 (co rfl (ok_box rfl (VL.le (vl rfl) (agg_cellsP _))) (cm rfl (Ch.nil (Fin.go (Tr.seq (Tr.reg0 (co rfl (kfa rfl fo26_6 rfl rfl) (co rfl (kl1 rfl one9 rfl) (cm rfl (Ch.nil (Fin.go (Tr.ret (Fin.ret1 rfl (OutW.bse _ _) rfl ?_))))))))))))))
 · exact Pr.le_refl _
theorem e_Og6 : Entry Tryz.prog 139 := ⟨_, Tryz.func139, rfl, rfl⟩
set_option maxRecDepth 20000 in
theorem w_Og7 {f : Fnd}  : Fun Tryz.prog 140 [agg (rowF f)] (int f.kind) := by
 refine Fun.of Tryz.func140 rfl rfl (by exact Nat.le_of_ble_eq_true rfl) fun M0 w0 => ?_
 refine Tr.seq (Tr.reg0 (co rfl (ok_box rfl (VL.le (vl rfl) (agg_cellsP _))) (cm rfl (Ch.nil (Fin.go (Tr.seq (Tr.reg0 (co rfl (kfa rfl fo26_5 rfl rfl) (co rfl (kl1 rfl one3 rfl) (cm rfl (Ch.nil (Fin.go (Tr.ret (Fin.ret1 rfl (OutW.bse _ _) rfl ?_))))))))))))))
 · exact Pr.le_refl _
theorem e_Og7 : Entry Tryz.prog 140 := ⟨_, Tryz.func140, rfl, rfl⟩
set_option maxRecDepth 20000 in
theorem w_Og8 {f : Fnd}  : Fun Tryz.prog 141 [agg (rowF f)] (int f.alg) := by
 refine Fun.of Tryz.func141 rfl rfl (by exact Nat.le_of_ble_eq_true rfl) fun M0 w0 => ?_
 refine Tr.seq (Tr.reg0 (co rfl (ok_box rfl (VL.le (vl rfl) (agg_cellsP _))) (cm rfl (Ch.nil (Fin.go (Tr.seq (Tr.reg0 (co rfl (kfa rfl fo26_7 rfl rfl) (co rfl (kfa rfl fo24_0 rfl rfl) (co rfl (kl1 rfl one3 rfl) (cm rfl (Ch.nil (Fin.go (Tr.ret ?_))))))))))))))
 refine Fin.ret1 rfl (OutW.bse _ _) rfl ?_
 · exact Pr.le_refl _
theorem e_Og8 : Entry Tryz.prog 141 := ⟨_, Tryz.func141, rfl, rfl⟩
set_option maxRecDepth 20000 in
theorem w_Og9 {f : Fnd}  : Fun Tryz.prog 142 [agg (rowF f)] (int f.bits) := by
 refine Fun.of Tryz.func142 rfl rfl (by exact Nat.le_of_ble_eq_true rfl) fun M0 w0 => ?_
 refine Tr.seq (Tr.reg0 (co rfl (ok_box rfl (VL.le (vl rfl) (agg_cellsP _))) (cm rfl (Ch.nil (Fin.go (Tr.seq (Tr.reg0 (co rfl (kfa rfl fo26_7 rfl rfl) (co rfl (kfa rfl fo24_1 rfl rfl) (co rfl (kl1 rfl one3 rfl) (cm rfl (Ch.nil (Fin.go (Tr.ret ?_))))))))))))))
 refine Fin.ret1 rfl (OutW.bse _ _) rfl ?_
 · exact Pr.le_refl _
theorem e_Og9 : Entry Tryz.prog 142 := ⟨_, Tryz.func142, rfl, rfl⟩
set_option maxRecDepth 20000 in
theorem w_Og10 {f : Fnd}  : Fun Tryz.prog 143 [agg (rowF f)] (int f.num) := by
 refine Fun.of Tryz.func143 rfl rfl (by exact Nat.le_of_ble_eq_true rfl) fun M0 w0 => ?_
 refine Tr.seq (Tr.reg0 (co rfl (ok_box rfl (VL.le (vl rfl) (agg_cellsP _))) (cm rfl (Ch.nil (Fin.go (Tr.seq (Tr.reg0 (co rfl (kfa rfl fo26_8 rfl rfl) (co rfl (kl1 rfl one3 rfl) (cm rfl (Ch.nil (Fin.go (Tr.ret (Fin.ret1 rfl (OutW.bse _ _) rfl ?_))))))))))))))
 · exact Pr.le_refl _
theorem e_Og10 : Entry Tryz.prog 143 := ⟨_, Tryz.func143, rfl, rfl⟩
set_option maxRecDepth 20000 in
theorem w_Og11 {f : Fnd}  : Fun Tryz.prog 144 [agg (rowF f)] (str f.text) := by
 refine Fun.of Tryz.func144 rfl rfl (by exact Nat.le_of_ble_eq_true rfl) fun M0 w0 => ?_
 refine Tr.seq (Tr.reg0 (co rfl (ok_box rfl (VL.le (vl rfl) (agg_cellsP _))) (cm rfl (Ch.nil (Fin.go (Tr.seq (Tr.reg0 (co rfl (kfa rfl fo26_9 rfl rfl) (co rfl (kl1 rfl one9 rfl) (cm rfl (Ch.nil (Fin.go (Tr.ret (Fin.ret1 rfl (OutW.bse _ _) rfl ?_))))))))))))))
 · exact Pr.le_refl _
theorem e_Og11 : Entry Tryz.prog 144 := ⟨_, Tryz.func144, rfl, rfl⟩
set_option maxRecDepth 20000 in
theorem w_Og12 {f : Fnd}  : Fun Tryz.prog 145 [agg (rowF f)] (int f.src) := by
 refine Fun.of Tryz.func145 rfl rfl (by exact Nat.le_of_ble_eq_true rfl) fun M0 w0 => ?_
 refine Tr.seq (Tr.reg0 (co rfl (ok_box rfl (VL.le (vl rfl) (agg_cellsP _))) (cm rfl (Ch.nil (Fin.go (Tr.seq (Tr.reg0 (co rfl (kfa rfl fo26_0 rfl rfl) (co rfl (kl1 rfl one3 rfl) (cm rfl (Ch.nil (Fin.go (Tr.ret (Fin.ret1 rfl (OutW.bse _ _) rfl ?_))))))))))))))
 · exact Pr.le_refl _
theorem e_Og12 : Entry Tryz.prog 145 := ⟨_, Tryz.func145, rfl, rfl⟩
set_option maxRecDepth 20000 in
theorem w_Og13 {f : Fnd}  : Fun Tryz.prog 146 [agg (rowF f)] (int f.conf) := by
 refine Fun.of Tryz.func146 rfl rfl (by exact Nat.le_of_ble_eq_true rfl) fun M0 w0 => ?_
 refine Tr.seq (Tr.reg0 (co rfl (ok_box rfl (VL.le (vl rfl) (agg_cellsP _))) (cm rfl (Ch.nil (Fin.go (Tr.seq (Tr.reg0 (co rfl (kfa rfl fo26_4 rfl rfl) (co rfl (kl1 rfl one3 rfl) (cm rfl (Ch.nil (Fin.go (Tr.ret (Fin.ret1 rfl (OutW.bse _ _) rfl ?_))))))))))))))
 · exact Pr.le_refl _
theorem e_Og13 : Entry Tryz.prog 146 := ⟨_, Tryz.func146, rfl, rfl⟩
set_option maxRecDepth 20000 in
theorem w_O11 {g : Fnd → Int} {a b : Fnd}  : Fun Tryz.prog 132 [ref [clo Tryz.prog (fun f : Fnd => [agg (rowF f)]) (fun f => int (g f))], ref (rowF a), ref (rowF b)] (int (cmpI (g a) (g b))) := by
 refine Fun.of Tryz.func132 rfl rfl (by exact Nat.le_of_ble_eq_true rfl) fun M0 w0 => ?_
 refine Tr.seq (Tr.reg0 (cm rfl (Ch.nil (Fin.go (Tr.seq (Tr.reg1 mixed (by kernel_rfl) (co rfl (kl1 rfl one156 rfl) (co rfl (ok_loadA rfl agg26 sz26 (vl rfl) rfl rfl) (co rfl (ok_callc a rfl (vl rfl) ⟨ke rfl, trivial⟩) (co rfl (kl1 rfl one156 rfl) (co rfl (ok_loadA rfl agg26 sz26 (vl rfl) rfl rfl) (co rfl (ok_callc b rfl (vl rfl) ⟨ke rfl, trivial⟩) (co rfl (ok_call rfl (w_cmpI) ⟨ke rfl, ke rfl, trivial⟩) ?_)))))))))))))
 refine cm rfl (Ch.nil (Fin.go (Tr.ret (Fin.ret1 rfl (OutW.bse _ _) rfl ?_))))
 · exact Pr.le_refl _
theorem e_O11 : Entry Tryz.prog 132 := ⟨_, Tryz.func132, rfl, rfl⟩
set_option maxRecDepth 20000 in
theorem w_O21 {g : Fnd → List UInt8} {a b : Fnd}  : Fun Tryz.prog 134 [ref [clo Tryz.prog (fun f : Fnd => [agg (rowF f)]) (fun f => str (g f))], ref (rowF a), ref (rowF b)] (int (Lib.compareBytes (g a) (g b))) := by
 refine Fun.of Tryz.func134 rfl rfl (by exact Nat.le_of_ble_eq_true rfl) fun M0 w0 => ?_
 refine Tr.seq (Tr.reg0 (cm rfl (Ch.nil (Fin.go (Tr.seq (Tr.reg1 mixed (by kernel_rfl) (co rfl (kl1 rfl one159 rfl) (co rfl (ok_loadA rfl agg26 sz26 (vl rfl) rfl rfl) (co rfl (ok_callc a rfl (vl rfl) ⟨ke rfl, trivial⟩) (co rfl (kl1 rfl one159 rfl) (co rfl (ok_loadA rfl agg26 sz26 (vl rfl) rfl rfl) (co rfl (ok_callc b rfl (vl rfl) ⟨ke rfl, trivial⟩) (co rfl (ok_call rfl (w_cmpS) ⟨ke rfl, ke rfl, trivial⟩) ?_)))))))))))))
 refine cm rfl (Ch.nil (Fin.go (Tr.ret (Fin.ret1 rfl (OutW.bse _ _) rfl ?_))))
 · exact Pr.le_refl _
theorem e_O21 : Entry Tryz.prog 134 := ⟨_, Tryz.func134, rfl, rfl⟩
set_option maxRecDepth 20000 in
theorem w_O1 {g : Fnd → Int} {a b : Fnd}  : Fun Tryz.prog 131 [clo Tryz.prog (fun f : Fnd => [agg (rowF f)]) (fun f => int (g f)), ref (rowF a), ref (rowF b)] (clo Tryz.prog (fun _ : Unit => []) (fun _ => int (cmpI (g a) (g b)))) := by
 refine Fun.of Tryz.func131 rfl rfl (by exact Nat.le_of_ble_eq_true rfl) fun M0 w0 => ?_
 refine Tr.seq (Tr.reg0 (co rfl (ok_box rfl (VL.le (vl rfl) (one_cellsP _))) (cm rfl (Ch.nil (Fin.go (Tr.seq (Tr.reg0 (co rfl (ok_makeFunc rfl rfl) (cm rfl (Ch.nil (Fin.go (Tr.ret (Fin.ret1 rfl (OutW.bse _ _) rfl ?_)))))))))))))
 · exact fn_le_clo e_O11 (fun _ => w_O11)
theorem e_O1 : Entry Tryz.prog 131 := ⟨_, Tryz.func131, rfl, rfl⟩
set_option maxRecDepth 20000 in
theorem w_O2 {g : Fnd → List UInt8} {a b : Fnd}  : Fun Tryz.prog 133 [clo Tryz.prog (fun f : Fnd => [agg (rowF f)]) (fun f => str (g f)), ref (rowF a), ref (rowF b)] (clo Tryz.prog (fun _ : Unit => []) (fun _ => int (Lib.compareBytes (g a) (g b)))) := by
 refine Fun.of Tryz.func133 rfl rfl (by exact Nat.le_of_ble_eq_true rfl) fun M0 w0 => ?_
 refine Tr.seq (Tr.reg0 (co rfl (ok_box rfl (VL.le (vl rfl) (one_cellsP _))) (cm rfl (Ch.nil (Fin.go (Tr.seq (Tr.reg0 (co rfl (ok_makeFunc rfl rfl) (cm rfl (Ch.nil (Fin.go (Tr.ret (Fin.ret1 rfl (OutW.bse _ _) rfl ?_)))))))))))))
 · exact fn_le_clo e_O21 (fun _ => w_O21)
theorem e_O2 : Entry Tryz.prog 133 := ⟨_, Tryz.func133, rfl, rfl⟩

theorem ordF_hit {a b : Fnd} {k : Nat} {x : Int} (hx : (keysF a b)[k]? = some x) (h0 : ¬ x = 0) (h : ∀ j y, j < k → (keysF a b)[j]? = some y → (y != 0) = false) : x = ordF a b := by
  have := orF_hit hx h0 h; rw [orL_orF] at this; exact this
theorem ordF_none {a b : Fnd} (h : ∀ j y, j < (keysF a b).length → (keysF a b)[j]? = some y → (y != 0) = false) : 0 = ordF a b := by
  have := orF_none h; rw [orL_orF] at this; exact this

set_option maxRecDepth 20000 in
theorem w_FOrder {a b : Fnd}  : Fun Tryz.prog 82 [agg (rowF a), agg (rowF b)] (int (ordF a b)) := by
 refine Fun.of Tryz.func82 rfl rfl (by exact Nat.le_of_ble_eq_true rfl) fun M0 w0 => ?_
 refine Tr.seq (Tr.reg0 (co rfl (ok_box rfl (VL.le (vl rfl) (agg_cellsP _))) (co rfl (ok_box rfl (VL.le (vl rfl) (agg_cellsP _))) (cm rfl (Ch.nil (Fin.go (Tr.seq (Tr.reg0 (co rfl (ok_makeFunc rfl rfl) (cm rfl (Ch.nil (Fin.go (Tr.seq (Tr.reg0 ?_))))))))))))))
 refine co rfl (ok_makeFunc rfl rfl) (cm rfl (Ch.nil (Fin.go (Tr.seq (Tr.seq (Tr.re 5 rfl (fn_le_clo (dom := fun g : Fnd → Int => [clo Tryz.prog (fun f : Fnd => [agg (rowF f)]) (fun f => int (g f))]) (res := fun g => clo Tryz.prog (fun _ : Unit => []) (fun _ => int (cmpI (g a) (g b)))) e_O1 (fun g => w_O1 (g := g) (a := a) (b := b))) (Tr.re 6 rfl (fn_le_clo (dom := fun g : Fnd → List UInt8 => [clo Tryz.prog (fun f : Fnd => [agg (rowF f)]) (fun f => str (g f))]) (res := fun g => clo Tryz.prog (fun _ : Unit => []) (fun _ => int (Lib.compareBytes (g a) (g b)))) e_O2 (fun g => w_O2 (g := g) (a := a) (b := b))) (Tr.reg0 (cm rfl (co rfl (ok_callc (fun f : Fnd => f.host) rfl (vl rfl) ⟨⟨_, rfl, fn_le_clo (dom := fun f : Fnd => [agg (rowF f)]) (res := fun f => str f.host) e_Og3 (fun f => w_Og3 (f := f))⟩, trivial⟩) (cm rfl (co rfl (ok_callc (fun f : Fnd => f.machine) rfl (vl rfl) ⟨⟨_, rfl, fn_le_clo (dom := fun f : Fnd => [agg (rowF f)]) (res := fun f => int f.machine) e_Og4 (fun f => w_Og4 (f := f))⟩, trivial⟩) (cm rfl ?_)))))))))))))
 refine co rfl (ok_callc (fun f : Fnd => f.day) rfl (vl rfl) ⟨⟨_, rfl, fn_le_clo (dom := fun f : Fnd => [agg (rowF f)]) (res := fun f => int f.day) e_Og5 (fun f => w_Og5 (f := f))⟩, trivial⟩) (cm rfl (co rfl (ok_callc (fun f : Fnd => f.subj) rfl (vl rfl) ⟨⟨_, rfl, fn_le_clo (dom := fun f : Fnd => [agg (rowF f)]) (res := fun f => str f.subj) e_Og6 (fun f => w_Og6 (f := f))⟩, trivial⟩) (cm rfl (co rfl (ok_callc (fun f : Fnd => f.kind) rfl (vl rfl) ⟨⟨_, rfl, fn_le_clo (dom := fun f : Fnd => [agg (rowF f)]) (res := fun f => int f.kind) e_Og7 (fun f => w_Og7 (f := f))⟩, trivial⟩) (cm rfl (co rfl (ok_callc (fun f : Fnd => f.alg) rfl (vl rfl) ⟨⟨_, rfl, fn_le_clo (dom := fun f : Fnd => [agg (rowF f)]) (res := fun f => int f.alg) e_Og8 (fun f => w_Og8 (f := f))⟩, trivial⟩) (cm rfl (co rfl (ok_callc (fun f : Fnd => f.bits) rfl (vl rfl) ⟨⟨_, rfl, fn_le_clo (dom := fun f : Fnd => [agg (rowF f)]) (res := fun f => int f.bits) e_Og9 (fun f => w_Og9 (f := f))⟩, trivial⟩) (cm rfl (co rfl (ok_callc (fun f : Fnd => f.num) rfl (vl rfl) ⟨⟨_, rfl, fn_le_clo (dom := fun f : Fnd => [agg (rowF f)]) (res := fun f => int f.num) e_Og10 (fun f => w_Og10 (f := f))⟩, trivial⟩) (cm rfl (co rfl (ok_callc (fun f : Fnd => f.text) rfl (vl rfl) ⟨⟨_, rfl, fn_le_clo (dom := fun f : Fnd => [agg (rowF f)]) (res := fun f => str f.text) e_Og11 (fun f => w_Og11 (f := f))⟩, trivial⟩) (cm rfl ?_)))))))))))))
 refine co rfl (ok_callc (fun f : Fnd => f.src) rfl (vl rfl) ⟨⟨_, rfl, fn_le_clo (dom := fun f : Fnd => [agg (rowF f)]) (res := fun f => int f.src) e_Og12 (fun f => w_Og12 (f := f))⟩, trivial⟩) (cm rfl (co rfl (ok_callc (fun f : Fnd => f.conf) rfl (vl rfl) ⟨⟨_, rfl, fn_le_clo (dom := fun f : Fnd => [agg (rowF f)]) (res := fun f => int f.conf) e_Og13 (fun f => w_Og13 (f := f))⟩, trivial⟩) (co rfl (ok_buildSlice (xs := [.tmp 13, .tmp 15, .tmp 17, .tmp 19, .tmp 21, .tmp 23, .tmp 25, .tmp 27, .tmp 29, .tmp 31, .tmp 33]) (rows := [[_], [_], [_], [_], [_], [_], [_], [_], [_], [_], [_]]) rfl rfl Tryz.underlying162 sz157 z157 rfl (by decide) ⟨⟨(by exact rfl), (VL.le (vl rfl) (one_cellsP _))⟩, ⟨⟨(by exact rfl), (VL.le (vl rfl) (one_cellsP _))⟩, ⟨⟨(by exact rfl), (VL.le (vl rfl) (one_cellsP _))⟩, ⟨⟨(by exact rfl), (VL.le (vl rfl) (one_cellsP _))⟩, ⟨⟨(by exact rfl), (VL.le (vl rfl) (one_cellsP _))⟩, ⟨⟨(by exact rfl), (VL.le (vl rfl) (one_cellsP _))⟩, ⟨⟨(by exact rfl), (VL.le (vl rfl) (one_cellsP _))⟩, ⟨⟨(by exact rfl), (VL.le (vl rfl) (one_cellsP _))⟩, ⟨⟨(by exact rfl), (VL.le (vl rfl) (one_cellsP _))⟩, ⟨⟨(by exact rfl), (VL.le (vl rfl) (one_cellsP _))⟩, ⟨⟨(by exact rfl), (VL.le (vl rfl) (one_cellsP _))⟩, trivial⟩⟩⟩⟩⟩⟩⟩⟩⟩⟩⟩ (by decide)) ?_)))
 refine co rfl (ok_len rfl Tryz.underlying162 ⟨_, rfl, full_le _ _⟩) (cm rfl (Ch.nil (Fin.go (wk3 34 35 36 rfl (Tr.block (Tr.re 34 rfl (Pr.le_trans (full_le _ _) (Pr.le_of_eq (show _ = slice 1 ((keysF a b).map fun k => [clo Tryz.prog (fun _ : Unit => []) (fun _ => int (k))]) from rfl))) (Tr.re 35 rfl (int_eq (b := (((keysF a b).length : Nat) : Int)) rfl) ?_)))))))
 refine Tr.loopw [(34, _), (35, _)] (kk2 rfl) (fun k : Nat => [(36, int ((k : Nat) : Int))]) (fun k : Nat => k ≤ (keysF a b).length ∧ (∀ j y, j < k → (keysF a b)[j]? = some y → (y != 0) = false)) (fun k : Nat => (keysF a b).length - k) 0 (⟨Nat.zero_le _, fun j y hj => absurd hj (by omega)⟩) ⟨ke rfl, trivial⟩ ?_
 rintro k ⟨hle_k, hinv_k⟩
 refine Tr.seq (Tr.reg0 (co rfl (ki rfl rfl rfl rfl) (Ch.nil (Fin.go (Tr.seq ?_)))))
 refine Tr.cn rfl ?_ ?_ <;> intro h1 q1
 have hk_k : k < (keysF a b).length := lt_of_dec h1
 obtain ⟨x, hx_k⟩ := at_ hk_k
 have hL : k < 11 := hk_k
 refine Tr.skip (Fin.go (Tr.seq (Tr.block (Tr.seq (Tr.reg0 (co rfl (ok_indexAddr rfl Tryz.underlying162 sz157 (vl rfl) (vl rfl) (by omega) (row_at (f := fun k => [clo Tryz.prog (fun _ : Unit => []) (fun _ => int (k))]) hx_k)) (co rfl (kl1 rfl one157 rfl) (cm rfl (Ch.nil (Fin.go (Tr.seq (Tr.reg0 (cm rfl ?_)))))))))))))
 refine co rfl (ok_callc () rfl (vl rfl) trivial) (cm rfl (Ch.nil (Fin.go (Tr.seq (Tr.reg0 (cm rfl (co rfl (ki rfl rfl rfl rfl) (Ch.nil (Fin.go ?_)))))))))
 refine Tr.cn rfl ?_ ?_ <;> intro h2 q2
 refine Tr.seq (Tr.reg0 (cm rfl (cm rfl (Ch.nil (Fin.go (wk1 4 rfl (Tr.ret (Fin.block_ret (Fin.then_ret (Fin.then_ret (Fin.block_ret (Fin.then_ret (Fin.ret1 rfl (OutW.bse _ _) rfl ?_)))))))))))))
 · exact int_eq (ordF_hit hx_k (by assumption) hinv_k)
 refine Tr.skip (Fin.block (Fin.go (Tr.reg0 (cad rfl rfl rfl rfl (by omega) (cm rfl (Ch.nil (Fin.fam_same (k + 1) ⟨⟨hk_k, step_no (p := fun y => y != 0) hx_k (by simpa using by assumption) hinv_k⟩, by omega⟩ ⟨⟨_, rfl, int_succ k⟩, ke rfl, ke rfl, trivial⟩)))))))
 have he_k : k = (keysF a b).length := by have := ge_of_dec h1; omega
 subst he_k
 refine Tr.exit (Fin.then_exit (Fin.then_exit (Fin.block_here (Fin.go (Tr.seq (Tr.reg0 (cm rfl (Ch.nil (Fin.go (Tr.ret (Fin.ret1 rfl (OutW.bse _ _) rfl ?_)))))))))))
 · exact int_eq (ordF_none hinv_k)
theorem e_FOrder : Entry Tryz.prog 82 := ⟨_, Tryz.func82, rfl, rfl⟩
end Go.Proofs.YtgdlhajfajddiaaGreat
namespace Cp
open Go Go.RowKit Go.Great

section
variable {P : Program} {E : Env} {I : Asn} {o : Oper}
theorem slice_part {M : Av} {w : World} {sz : Nat} {rows : List (List Pr)} {A : Option Addr} {cap lo hi : Nat} (h : (slice sz rows).h M w (.slice A rows.length cap)) (h1 : lo ≤ hi) (h2 : hi ≤ rows.length) :
    (slice sz ((rows.take hi).drop lo)).h M w (.slice (if cap = lo then A else A.map (·.add (lo * sz))) (hi - lo) (cap - lo)) := by
  obtain ⟨A', cap', hv, hc, hm, hA, hr⟩ := h
  injection hv with e1 _ e3
  subst e1; subst e3
  have hlen : ((rows.take hi).drop lo).length = hi - lo := by rw [List.length_drop, List.length_take]; omega
  refine ⟨_, cap - lo, by rw [hlen], by rw [hlen]; omega, by omega, fun h => ?_, fun i row hi' => ?_⟩
  · split at h
    · have := hA h; omega
    · cases hA2 : A with
      | none => have := hA hA2; omega
      | some a => rw [hA2] at h; cases h
  · rw [List.getElem?_drop, List.getElem?_take] at hi'
    split at hi'
    · rename_i hlt
      obtain ⟨h3, ad, h4, h5⟩ := hr _ row hi'
      subst h4
      rw [if_neg (by omega)]
      refine ⟨h3, _, rfl, fun j p hp => ?_⟩
      obtain ⟨u, h6, h7, h8, h9⟩ := h5 j p hp
      refine ⟨u, ?_, ?_, h8, h9⟩
      · rw [add_add, show lo * sz + (i * sz + j) = (lo + i) * sz + j by rw [Nat.add_mul]; omega]; exact h6
      · rw [add_block, add_off, show ad.off + lo * sz + (i * sz + j) = ad.off + ((lo + i) * sz + j) by rw [Nat.add_mul]; omega]; exact h7
    · cases hi'
theorem ok_sliceTo {t e : TypeId} {x y : Operand} {k : IntKind} {h : Int} {sz : Nat} {rows : List (List Pr)} (ho : o.op = .slice t x none (some y) none) (ht : P.underlying t = some (.slice e)) (hz : sizeB P e = some sz) (hx : VL E x (slice sz rows)) (hy : VL E y (is (.int k h))) (h0 : 0 ≤ h) (hl : h ≤ rows.length) :
    OpOK P I o E (slice sz (rows.take h.toNat)) :=
  OpOK.same fun M w a he _ => by
    have h1 := hx.ev he (by simp [ho, Op.operands])
    have h3 : a.eval y = _ := hy.ev he (by simp [ho, Op.operands])
    obtain ⟨A, cap, hv, hc, hm, hA, hr⟩ := h1
    have h2 := slice_part (lo := 0) (hi := h.toNat) (show (slice sz rows).h M w (.slice A rows.length cap) from ⟨A, cap, rfl, hc, hm, hA, hr⟩) (by omega) (by omega)
    refine ⟨_, ?_, by simpa using h2⟩
    have hb : h ≤ (cap : Int) := by omega
    simp [execOp, ho, hv, h3, Instr.sliceAt, Instr.slice, run_underlying ht, Instr.sliceBounds, Instr.sliceBound, asIntOf, h0, hb, run_size hz]
theorem ok_sliceFrom {t e : TypeId} {x y : Operand} {k : IntKind} {l : Int} {sz : Nat} {rows : List (List Pr)} (ho : o.op = .slice t x (some y) none none) (ht : P.underlying t = some (.slice e)) (hz : sizeB P e = some sz) (hx : VL E x (slice sz rows)) (hy : VL E y (is (.int k l))) (h0 : 0 ≤ l) (hl : l ≤ rows.length) :
    OpOK P I o E (slice sz (rows.drop l.toNat)) :=
  OpOK.same fun M w a he _ => by
    have h1 := hx.ev he (by simp [ho, Op.operands])
    have h3 : a.eval y = _ := hy.ev he (by simp [ho, Op.operands])
    obtain ⟨A, cap, hv, hc, hm, hA, hr⟩ := h1
    have h2 := slice_part (lo := l.toNat) (hi := rows.length) (show (slice sz rows).h M w (.slice A rows.length cap) from ⟨A, cap, rfl, hc, hm, hA, hr⟩) (by omega) (Nat.le_refl _)
    rw [List.take_length] at h2
    refine ⟨_, ?_, h2⟩
    simp [execOp, ho, hv, h3, Instr.sliceAt, Instr.slice, run_underlying ht, Instr.sliceBounds, Instr.sliceBound, asIntOf, h0, hl, run_size hz]
end
end Cp
namespace Go.Proofs.YtgdlhajfajddiaaGreat
open Go Go.RowKit Cp

def AdjF (l : List Fnd) : Prop := ∀ (j : Nat) a b, l[j]? = some a → l[j + 1]? = some b → ordF a b < 0
structure NormP (l : List Fnd) : Prop where
  check : ∀ f ∈ l, checkF f = true
  adj : AdjF l
  len : l.length ≤ 400
abbrev AdjTo (l : List Fnd) (k : Nat) : Prop := ∀ (j : Nat) a b, j + 1 < k → l[j]? = some a → l[j + 1]? = some b → ordF a b < 0
theorem adj_step {l : List Fnd} {k : Nat} {x : Fnd} (hx : l[k]? = some x) (hp : ∀ y, 0 < k → l[k - 1]? = some y → ordF y x < 0) (h : AdjTo l k) : AdjTo l (k + 1) := by
  intro j a b hj ha hb
  by_cases hjk : j + 1 = k
  · subst hjk
    rw [hx] at hb; cases hb
    exact hp a (by omega) (by simpa using ha)
  · exact h j a b (by omega) ha hb
abbrev ChTo (l : List Fnd) (k : Nat) : Prop := ∀ (j : Nat) y, j < k → l[j]? = some y → checkF y = true
theorem ch_step {l : List Fnd} {k : Nat} {x : Fnd} (hx : l[k]? = some x) (hp : checkF x = true) (h : ChTo l k) : ChTo l (k + 1) := by
  intro j y hj hy
  by_cases hjk : j = k
  · subst hjk; rw [hx] at hy; cases hy; exact hp
  · exact h j y (by omega) hy
theorem ch_all {l : List Fnd} (h : ChTo l l.length) : ∀ f ∈ l, checkF f = true := by
  intro f hf
  obtain ⟨j, hj⟩ := List.mem_iff_getElem?.1 hf
  exact h j f (by rcases Nat.lt_or_ge j l.length with h' | h'; exact h'; rw [List.getElem?_eq_none h'] at hj; cases hj) hj
theorem adj_all {l : List Fnd} (h : AdjTo l l.length) : AdjF l := fun j a b ha hb => h j a b (by rcases Nat.lt_or_ge (j + 1) l.length with h' | h'; exact h'; rw [List.getElem?_eq_none h'] at hb; cases hb) ha hb
theorem check_no {f : Fnd} (h : ¬ (if checkF f = true then (0 : Int) else 24) = 0) : checkF f = false := by
  cases hc : checkF f with
  | false => rfl
  | true => rw [if_pos hc] at h; exact absurd rfl h
theorem check_yes {f : Fnd} (h : (if checkF f = true then (0 : Int) else 24) = 0) : checkF f = true := by
  cases hc : checkF f with
  | true => rfl
  | false => rw [hc] at h; cases h
theorem pred_at {l : List Fnd} {f : Fnd → List Pr} {k : Nat} {x : Fnd} (h0 : 0 < k) (h : l[k - 1]? = some x) : (l.map f)[(((k : Nat) : Int) - 1).toNat]? = some (f x) := by
  rw [show (((k : Nat) : Int) - 1).toNat = k - 1 by omega, List.getElem?_map, h]; rfl

set_option maxRecDepth 20000 in
theorem w_FNormal {l : List Fnd} (hf : ∀ f ∈ l, f.fits) [Decidable (NormP l)] : Fun Tryz.prog 68 [fnds l] (bool (decide (NormP l))) := by
 refine Fun.of Tryz.func68 rfl rfl (by exact Nat.le_of_ble_eq_true rfl) fun M0 w0 => ?_
 refine Tr.lenm 0 rfl fun hlm_0 => (Tr.seq (Tr.reg0 (cm rfl (Ch.nil (Fin.go (Tr.seq (Tr.seq (Tr.reg0 (cm rfl (co rfl (ok_lenm rfl Tryz.underlying31 (vl rfl)) (cm rfl (Ch.nil (Fin.go (Tr.block ?_))))))))))))))
 refine Tr.loopw [(0, _), (5, _), (6, _)] (kk3 rfl) (fun k : Nat => [(7, int ((k : Nat) : Int))]) (fun k : Nat => k ≤ (l).length ∧ (ChTo l k ∧ AdjTo l k)) (fun k : Nat => (l).length - k) 0 (⟨Nat.zero_le _, ⟨fun j y hj => absurd hj (by omega), fun j a b hj => absurd hj (by omega)⟩⟩) ⟨ke rfl, trivial⟩ ?_
 rintro k ⟨hle_k, hinv_k⟩
 refine Tr.seq (Tr.reg0 (co rfl (ki rfl rfl rfl rfl) (Ch.nil (Fin.go (Tr.seq ?_)))))
 refine Tr.cn rfl ?_ ?_ <;> intro h1 q1
 have hk_k : k < (l).length := lt_of_dec h1
 obtain ⟨x, hx_k⟩ := at_ hk_k
 refine Tr.skip (Fin.go (Tr.seq (Tr.block (Tr.seq (Tr.regT (tm rfl (tp rfl (ok_indexAddr rfl Tryz.underlying31 sz26 (vl rfl) (vl rfl) (by omega) (by exact row_at (by assumption))) ?_)))))))
 refine tp rfl (ok_loadA rfl agg26 sz26 (vl rfl) rfl rfl) ?_
 refine TO.alloc rfl rfl (by decide) rfl z26 zo26 (fun b1 => ?_)
 refine tm rfl (TO.store_all 0 rfl rfl rfl (vl rfl) (VL.le (vl rfl) (agg_cellsP _)) rfl sz26 rfl rfl (TO.freeze 0 4 rfl rfl (TO.nil (Fin.go (Tr.seq (Tr.reg1 mixed (by kernel_rfl) (co rfl (ok_loadA rfl agg26 sz26 (vl rfl) rfl rfl) ?_)))))))
 refine co rfl (ok_call rfl (w_FCheck (hf x (List.mem_of_getElem? hx_k))) ⟨ke rfl, trivial⟩) ?_
 refine co rfl (ki rfl rfl rfl rfl) (cm rfl ?_)
 refine Ch.cs 15 rfl ?_ ?_ <;> intro h2 q2
 have hc := check_no q2
 refine cnf h2 rfl (cnf h2 rfl (cnf h2 rfl ?_))
 iterate 8 refine cu rfl ?_
 refine cnf h2 rfl (co rfl (kpt rfl rfl h2 rfl) (Ch.nil (Fin.go (wk5 0 5 6 7 28 rfl (Tr.cond rfl (fun _ => ?_) (fun h => nomatch h))))))
 refine Tr.seq (Tr.reg0 (cm rfl (Ch.nil (Fin.go (Tr.ret (Fin.block_ret (Fin.then_ret (Fin.then_ret (Fin.block_ret (Fin.then_ret (Fin.ret1 rfl (OutW.bse _ _) rfl ?_)))))))))))
 · refine bool_eq ?_; symm; rw [decide_eq_false_iff_not]; intro hn; have := hn.check x (List.mem_of_getElem? hx_k); rw [hc] at this; cases this
 have hc := check_yes q2
 refine cym h2 rfl (cy h2 rfl (ki rfl rfl rfl rfl) (cym h2 rfl ?_))
 refine Ch.cs 18 rfl ?_ ?_ <;> intro h3 q3
 obtain ⟨p, hp⟩ := at_ (l := l) (k := k - 1) (by omega)
 refine cym h3 rfl (cym h3 rfl ?_)
 refine cy h3 rfl (ok_sub rfl (vl rfl) (vl rfl) ?hin) ?_; case hin => unfold InI; omega
 refine cy h3 rfl (ok_indexAddr rfl Tryz.underlying31 sz26 (vl rfl) (vl rfl) (by omega) (pred_at (by omega) hp)) (cy h3 rfl (ok_loadA rfl agg26 sz26 (vl rfl) rfl rfl) (cy h3 rfl (ok_loadA rfl agg26 sz26 (vl rfl) rfl rfl) (cy h3 rfl (ok_call rfl (w_FOrder) ⟨ke rfl, ke rfl, trivial⟩) (cy h3 rfl (ki rfl rfl rfl rfl) (cy h2 rfl (kpt rfl rfl h3 rfl) (co rfl (kpf rfl rfl h2 rfl) (Ch.nil (Fin.go (wk5 0 5 6 7 28 rfl ?_)))))))))
 refine Tr.cn rfl ?_ ?_ <;> intro h4 q4
 refine Tr.seq (Tr.reg0 (cm rfl (Ch.nil (Fin.go (Tr.ret (Fin.block_ret (Fin.then_ret (Fin.then_ret (Fin.block_ret (Fin.then_ret (Fin.ret1 rfl (OutW.bse _ _) rfl ?_)))))))))))
 · refine bool_eq ?_; symm; rw [decide_eq_false_iff_not]; intro hn; have := hn.adj (k - 1) p x hp (by rw [show k - 1 + 1 = k by omega]; exact hx_k); omega
 refine Tr.skip (Fin.block (Fin.go (Tr.reg0 (cad rfl rfl rfl rfl (by omega) (cm rfl (Ch.nil ?_))))))
 exact Fin.fam_same (k + 1) ⟨⟨hk_k, ⟨ch_step hx_k hc hinv_k.1, adj_step hx_k (by intro y h0 hy; rw [hp] at hy; cases hy; omega) hinv_k.2⟩⟩, by omega⟩ ⟨⟨_, rfl, int_succ k⟩, ke rfl, ke rfl, ke rfl, trivial⟩
 iterate 8 refine cnt h3 rfl ?_
 refine cy h2 rfl (kpf rfl rfl h3 rfl) (co rfl (kpf rfl rfl h2 rfl) (Ch.nil (Fin.go (wk5 0 5 6 7 28 rfl (Tr.cond rfl (fun h => nomatch h) (fun _ => ?_))))))
 refine Tr.skip (Fin.block (Fin.go (Tr.reg0 (cad rfl rfl rfl rfl (by omega) (cm rfl (Ch.nil ?_))))))
 exact Fin.fam_same (k + 1) ⟨⟨hk_k, ⟨ch_step hx_k hc hinv_k.1, adj_step hx_k (by intro y h0 hy; omega) hinv_k.2⟩⟩, by omega⟩ ⟨⟨_, rfl, int_succ k⟩, ke rfl, ke rfl, ke rfl, trivial⟩
 have he_k : k = (l).length := by have := ge_of_dec h1; omega
 subst he_k
 refine Tr.exit (Fin.then_exit (Fin.then_exit (Fin.block_here (Fin.go (Tr.seq (Tr.reg0 (cm rfl (co rfl (ok_lenm rfl Tryz.underlying31 (vl rfl)) (co rfl (ki rfl rfl rfl rfl) (cm rfl (Ch.nil (Fin.go (Tr.ret (Fin.ret1 rfl (OutW.bse _ _) rfl ?_))))))))))))))
 · refine bool_eq ?_; rw [decide_eq_decide]; exact ⟨fun hl => ⟨ch_all hinv_k.1, adj_all hinv_k.2, by omega⟩, fun hn => by have := hn.len; omega⟩
/-- Where a finding belongs, seen from the end. -/
def kF (l : List Fnd) (f : Fnd) : Nat := (l.reverse.dropWhile fun x => decide (0 < ordF x f)).length
def putF (l : List Fnd) (f : Fnd) : List Fnd := if 0 < kF l f ∧ ((l[kF l f - 1]?).map fun x => ordF x f) = some 0 then l else l.take (kF l f) ++ [f] ++ l.drop (kF l f)
theorem dropWhile_app {β : Type} {p : β → Bool} : ∀ {l m : List β}, (∀ x ∈ l, p x = true) → (l ++ m).dropWhile p = m.dropWhile p
  | [], _, _ => rfl
  | a :: l, m, h => by
    rw [List.cons_append, List.dropWhile_cons_of_pos (h a (by simp))]
    exact dropWhile_app fun x hx => h x (List.mem_cons_of_mem _ hx)
theorem kF_eq {l : List Fnd} {f : Fnd} {k : Nat} (hk : k ≤ l.length) (hgt : ∀ (j : Nat) y, k ≤ j → l[j]? = some y → 0 < ordF y f) (hle : k = 0 ∨ ∃ x, l[k - 1]? = some x ∧ ¬ 0 < ordF x f) : kF l f = k := by
  unfold kF
  have h1 : l.reverse = (l.drop k).reverse ++ (l.take k).reverse := by rw [← List.reverse_append, List.take_append_drop]
  rw [h1, dropWhile_app (by
    intro x hx
    rw [List.mem_reverse] at hx
    obtain ⟨j, hj⟩ := List.mem_iff_getElem?.1 hx
    rw [List.getElem?_drop] at hj
    simpa using hgt _ x (by omega) hj)]
  rcases hle with h0 | ⟨x, hx, hn⟩
  · subst h0; simp
  · have hk0 : 0 < k := by
      rcases Nat.eq_zero_or_pos k with h | h
      · subst h
        rw [show (0 : Nat) - 1 = 0 from rfl] at hx
        exact absurd (hgt 0 x (Nat.le_refl _) hx) hn
      · exact h
    have h2 : l.take k = l.take (k - 1) ++ [x] := by
      have := List.take_add_one (l := l) (i := k - 1)
      rw [show k - 1 + 1 = k by omega, hx] at this
      simpa using this
    rw [h2, List.reverse_append]
    show (List.dropWhile _ (x :: (l.take (k - 1)).reverse)).length = k
    rw [List.dropWhile_cons_of_neg (by simpa using hn)]
    simp; omega
theorem putF_same {l : List Fnd} {f x : Fnd} {k : Nat} (h : kF l f = k) (h0 : 0 < k) (hx : l[k - 1]? = some x) (he : ordF x f = 0) : putF l f = l := by
  unfold putF; rw [h, if_pos ⟨h0, by rw [hx]; simp [he]⟩]
theorem putF_new {l : List Fnd} {f : Fnd} {k : Nat} (h : kF l f = k) (hn : k = 0 ∨ ∃ x, l[k - 1]? = some x ∧ ¬ ordF x f = 0) : putF l f = l.take k ++ [f] ++ l.drop k := by
  unfold putF; rw [h, if_neg]
  rintro ⟨h1, h2⟩
  rcases hn with h3 | ⟨x, hx, hne⟩
  · omega
  · rw [hx] at h2; simp at h2; exact hne h2

set_option maxRecDepth 20000 in
theorem w_put {l : List Fnd} {f : Fnd} (hl : l.length ≤ 1000) : Fun Tryz.prog 108 [fnds l, agg (rowF f)] (fnds (putF l f)) := by
 refine Fun.of Tryz.func108 rfl rfl (by exact Nat.le_of_ble_eq_true rfl) fun M0 w0 => ?_
 refine Tr.seq (Tr.reg0 (co rfl (ok_box rfl (VL.le (vl rfl) (agg_cellsP _))) (cm rfl (Ch.nil (Fin.go (Tr.seq (Tr.reg0 (cm rfl (co rfl (ok_lenm rfl Tryz.underlying31 (vl rfl)) (cm rfl (Ch.nil (Fin.go (Tr.seq (Tr.block ?_))))))))))))))
 refine Tr.loopw [(0, _), (3, _)] (kk2 rfl) (fun k : Nat => [(5, int ((k : Nat) : Int))]) (fun k : Nat => k ≤ l.length ∧ ∀ (j : Nat) y, k ≤ j → l[j]? = some y → 0 < ordF y f) (fun k : Nat => k) l.length (⟨Nat.le_refl _, fun j y h1 h2 => by rw [List.getElem?_eq_none h1] at h2; cases h2⟩) ⟨ke rfl, trivial⟩ ?_
 rintro k ⟨hk, hgt⟩
 refine Tr.seq (Tr.seq (Tr.reg1 mixed (by kernel_rfl) (cm rfl (co rfl (ki rfl rfl rfl rfl) (cm rfl ?_)))))
 refine Ch.cs 10 rfl ?_ ?_ <;> intro h1 q1
 obtain ⟨x, hx⟩ := at_ (l := l) (k := k - 1) (by omega)
 refine cym h1 rfl (cym h1 rfl ?_)
 refine cy h1 rfl (ok_sub rfl (vl rfl) (vl rfl) ?hin) ?_; case hin => unfold InI; omega
 refine cy h1 rfl (ok_indexAddr rfl Tryz.underlying31 sz26 (vl rfl) (vl rfl) (by omega) (pred_at (by omega) hx)) (cy h1 rfl (ok_loadA rfl agg26 sz26 (vl rfl) rfl rfl) (cy h1 rfl (ok_loadA rfl agg26 sz26 (vl rfl) rfl rfl) (cy h1 rfl (ok_call rfl (w_R14Order) ⟨ke rfl, ke rfl, trivial⟩) (cy h1 rfl (ki rfl rfl rfl rfl) (co rfl (kpt rfl rfl h1 rfl) (Ch.nil (Fin.go (wk4 0 3 5 19 rfl ?_))))))))
 refine Tr.cn rfl ?_ ?_ <;> intro h2 q2
 have := h2
 refine Tr.skip (Fin.go (Tr.block (Tr.reg0 (cm rfl (csu rfl rfl rfl rfl (by omega) (cm rfl (Ch.nil (Fin.block ?_))))))))
 exact Fin.fam_same (k - 1) ⟨⟨by omega, fun j y h1 h2 => by rcases Nat.eq_or_lt_of_le h1 with h3 | h3; (subst h3; rw [hx] at h2; cases h2; omega); exact hgt j y (by omega) h2⟩, by omega⟩ ⟨⟨_, rfl, int_eq (by omega)⟩, ke rfl, ke rfl, trivial⟩
 have := h2
 refine Tr.exit (Fin.then_exit (Fin.then_exit (Fin.block_here (Fin.go (Tr.seq (Tr.seq (Tr.reg1 mixed (by kernel_rfl) (cm rfl (co rfl (ki rfl rfl rfl rfl) (cm rfl ?_))))))))))
 refine Ch.cs 24 rfl ?_ ?_ <;> intro h3 q3
 obtain ⟨x2, hx2⟩ := at_ (l := l) (k := k - 1) (by omega)
 refine cym h3 rfl (cym h3 rfl ?_)
 refine cy h3 rfl (ok_sub rfl (vl rfl) (vl rfl) ?hin) ?_; case hin => unfold InI; omega
 refine cy h3 rfl (ok_indexAddr rfl Tryz.underlying31 sz26 (vl rfl) (vl rfl) (by omega) (pred_at (by omega) hx2)) (cy h3 rfl (ok_loadA rfl agg26 sz26 (vl rfl) rfl rfl) (cy h3 rfl (ok_loadA rfl agg26 sz26 (vl rfl) rfl rfl) (cy h3 rfl (ok_call rfl (w_R14Order) ⟨ke rfl, ke rfl, trivial⟩) (cy h3 rfl (ki rfl rfl rfl rfl) (co rfl (kpt rfl rfl h3 rfl) (Ch.nil (Fin.go (wk4 0 3 5 33 rfl ?_))))))))
 refine Tr.cn rfl ?_ ?_ <;> intro h4 q4
 refine Tr.seq (Tr.reg0 (cm rfl (cm rfl (Ch.nil (Fin.go (Tr.ret (Fin.then_ret (Fin.ret1 rfl (OutW.bse _ _) rfl ?_))))))))
 · rw [putF_same (kF_eq hk hgt (.inr ⟨x, hx, by omega⟩)) (by omega) hx2 (by assumption)]; exact Pr.le_refl _
 refine Tr.skip (Fin.go (Tr.seq (Tr.pad (Tr.regX mixed [none, none, none, none, some (0, 0, true, 39), none, none, some (39, 0, true, 42), none, none, none, some (42, 0, true, 46), some (46, 0, true, 4)] (by kernel_rfl) (xo rfl (fun _ => ok_buildSlice (xs := []) (rows := []) rfl rfl Tryz.underlying31 sz26 z26 rfl (by decide) trivial (by decide)) (xm rfl (xm rfl ?_)))))))
 refine xo rfl (fun _ => ok_sliceTo rfl Tryz.underlying31 sz26 (vl rfl) (vl rfl) (by omega) (by simp; omega)) ?_
 refine Cx.ef 0 rfl rfl (by decide) (ef_append rfl rfl (by decide) rfl Tryz.underlying31 sz26 by26 z26 rfl (by decide) ⟨_, rfl, full_le _ _⟩ (vl rfl) (by simp; unfold maxLen; omega) (by simp; omega) (appR_full (by exact List.Mem.head _) (vl rfl))) ?_
 refine xo rfl (fun _ => ok_loadA rfl agg26 sz26 (vl rfl) rfl rfl) (xo rfl (fun _ => ok_buildSlice (xs := [.tmp 40]) (rows := [_]) rfl rfl Tryz.underlying31 sz26 z26 rfl (by decide) ⟨⟨(by exact rfl), (VL.le (vl rfl) (agg_cellsP _))⟩, trivial⟩ (by decide)) ?_)
 refine Cx.ef 0 rfl rfl (by decide) (ef_append rfl rfl (by decide) rfl Tryz.underlying31 sz26 by26 z26 rfl (by decide) (vl rfl) ⟨_, rfl, full_le _ _⟩ (by simp; unfold maxLen; omega) (by simp; omega) appR_slot) ?_
 refine xm rfl (xm rfl ?_)
 refine xo rfl (fun _ => ok_sliceFrom rfl Tryz.underlying31 sz26 (vl rfl) (vl rfl) (by omega) (by simp; omega)) ?_
 refine Cx.ef 0 rfl rfl (by decide) (ef_append rfl rfl (by decide) rfl Tryz.underlying31 sz26 by26 z26 rfl (by decide) (vl rfl) (vl rfl) (by simp; unfold maxLen; omega) (by simp; omega) appR_slot) ?_
 refine Cx.ef 0 rfl rfl (by decide) (ef_move rfl rfl (by decide) rfl (vl rfl)) ?_
 refine Cx.nil ⟨rfl, ?_⟩
 refine FinX.open_ 0 4 rfl rfl (fun v1 => ?_)
 refine FinX.done (AllC.cons (AllC.map _)) (Fin.go (wk1 4 rfl (Tr.ret (Fin.ret1 rfl (OutW.bse _ _) rfl ?_))))
 · rw [putF_new (kF_eq hk hgt (.inr ⟨x, hx, by omega⟩)) (.inr ⟨x2, hx2, by assumption⟩)]; exact Pr.le_trans (andIs_le _ _) (Pr.le_of_eq (by show slice 11 _ = slice 11 _; rw [Int.toNat_natCast, List.map_append, List.map_append, List.map_take, List.map_drop, List.nil_append]; rfl))
 iterate 8 refine cnt h3 rfl ?_
 refine co rfl (kpf rfl rfl h3 rfl) (Ch.nil (Fin.go (wk4 0 3 5 33 rfl (Tr.cond rfl (fun h => nomatch h) (fun _ => ?_)))))
 refine Tr.skip (Fin.go (Tr.seq (Tr.pad (Tr.regX mixed [none, none, none, none, some (0, 0, true, 39), none, none, some (39, 0, true, 42), none, none, none, some (42, 0, true, 46), some (46, 0, true, 4)] (by kernel_rfl) (xo rfl (fun _ => ok_buildSlice (xs := []) (rows := []) rfl rfl Tryz.underlying31 sz26 z26 rfl (by decide) trivial (by decide)) (xm rfl (xm rfl (xo rfl (fun _ => ok_sliceTo rfl Tryz.underlying31 sz26 (vl rfl) (vl rfl) (by omega) (by omega)) ?_))))))))
 refine Cx.ef 0 rfl rfl (by decide) (ef_append rfl rfl (by decide) rfl Tryz.underlying31 sz26 by26 z26 rfl (by decide) ⟨_, rfl, full_le _ _⟩ (vl rfl) (by simp; unfold maxLen; omega) (by simp; omega) (appR_full (by exact List.Mem.head _) (vl rfl))) ?_
 refine xo rfl (fun _ => ok_loadA rfl agg26 sz26 (vl rfl) rfl rfl) (xo rfl (fun _ => ok_buildSlice (xs := [.tmp 40]) (rows := [_]) rfl rfl Tryz.underlying31 sz26 z26 rfl (by decide) ⟨⟨(by exact rfl), (VL.le (vl rfl) (agg_cellsP _))⟩, trivial⟩ (by decide)) ?_)
 refine Cx.ef 0 rfl rfl (by decide) (ef_append rfl rfl (by decide) rfl Tryz.underlying31 sz26 by26 z26 rfl (by decide) (vl rfl) ⟨_, rfl, full_le _ _⟩ (by simp; unfold maxLen; omega) (by simp; omega) appR_slot) ?_
 refine xm rfl (xm rfl (xo rfl (fun _ => ok_sliceFrom rfl Tryz.underlying31 sz26 (vl rfl) (vl rfl) (by omega) (by omega)) ?_))
 refine Cx.ef 0 rfl rfl (by decide) (ef_append rfl rfl (by decide) rfl Tryz.underlying31 sz26 by26 z26 rfl (by decide) (vl rfl) (vl rfl) (by simp; unfold maxLen; omega) (by simp; omega) appR_slot) ?_
 refine Cx.ef 0 rfl rfl (by decide) (ef_move rfl rfl (by decide) rfl (vl rfl)) ?_
 refine Cx.nil ⟨rfl, ?_⟩
 refine FinX.open_ 0 4 rfl rfl (fun v2 => ?_)
 refine FinX.done (AllC.cons (AllC.map _)) (Fin.go (wk1 4 rfl (Tr.ret (Fin.ret1 rfl (OutW.bse _ _) rfl ?_))))
 · exfalso; omega
 iterate 8 refine cnt h1 rfl ?_
 refine co rfl (kpf rfl rfl h1 rfl) (Ch.nil (Fin.go (wk4 0 3 5 19 rfl (Tr.cond rfl (fun h => nomatch h) (fun _ => ?_)))))
 refine Tr.exit (Fin.then_exit (Fin.then_exit (Fin.block_here (Fin.go (Tr.seq (Tr.seq (Tr.reg1 mixed (by kernel_rfl) (cm rfl (co rfl (ki rfl rfl rfl rfl) (cm rfl ?_))))))))))
 refine Ch.cs 24 rfl ?_ ?_ <;> intro h5 q5
 obtain ⟨x2, hx2⟩ := at_ (l := l) (k := k - 1) (by omega)
 refine cym h5 rfl (cym h5 rfl ?_)
 refine cy h5 rfl (ok_sub rfl (vl rfl) (vl rfl) ?hin) ?_; case hin => unfold InI; omega
 refine cy h5 rfl (ok_indexAddr rfl Tryz.underlying31 sz26 (vl rfl) (vl rfl) (by omega) (pred_at (by omega) hx2)) (cy h5 rfl (ok_loadA rfl agg26 sz26 (vl rfl) rfl rfl) (cy h5 rfl (ok_loadA rfl agg26 sz26 (vl rfl) rfl rfl) (cy h5 rfl (ok_call rfl (w_R14Order) ⟨ke rfl, ke rfl, trivial⟩) (cy h5 rfl (ki rfl rfl rfl rfl) (co rfl (kpt rfl rfl h5 rfl) (Ch.nil (Fin.go (wk4 0 3 5 33 rfl ?_))))))))
 refine Tr.cn rfl ?_ ?_ <;> intro h6 q6
 refine Tr.seq (Tr.reg0 (cm rfl (cm rfl (Ch.nil (Fin.go (Tr.ret (Fin.then_ret (Fin.ret1 rfl (OutW.bse _ _) rfl ?_))))))))
 · exfalso; omega
 refine Tr.skip (Fin.go (Tr.seq (Tr.pad (Tr.regX mixed [none, none, none, none, some (0, 0, true, 39), none, none, some (39, 0, true, 42), none, none, none, some (42, 0, true, 46), some (46, 0, true, 4)] (by kernel_rfl) (xo rfl (fun _ => ok_buildSlice (xs := []) (rows := []) rfl rfl Tryz.underlying31 sz26 z26 rfl (by decide) trivial (by decide)) (xm rfl (xm rfl (xo rfl (fun _ => ok_sliceTo rfl Tryz.underlying31 sz26 (vl rfl) (vl rfl) (by omega) (by omega)) ?_))))))))
 refine Cx.ef 0 rfl rfl (by decide) (ef_append rfl rfl (by decide) rfl Tryz.underlying31 sz26 by26 z26 rfl (by decide) ⟨_, rfl, full_le _ _⟩ (vl rfl) (by simp; unfold maxLen; omega) (by simp; omega) (appR_full (by exact List.Mem.head _) (vl rfl))) ?_
 refine xo rfl (fun _ => ok_loadA rfl agg26 sz26 (vl rfl) rfl rfl) (xo rfl (fun _ => ok_buildSlice (xs := [.tmp 40]) (rows := [_]) rfl rfl Tryz.underlying31 sz26 z26 rfl (by decide) ⟨⟨(by exact rfl), (VL.le (vl rfl) (agg_cellsP _))⟩, trivial⟩ (by decide)) ?_)
 refine Cx.ef 0 rfl rfl (by decide) (ef_append rfl rfl (by decide) rfl Tryz.underlying31 sz26 by26 z26 rfl (by decide) (vl rfl) ⟨_, rfl, full_le _ _⟩ (by simp; unfold maxLen; omega) (by simp; omega) appR_slot) ?_
 refine xm rfl (xm rfl (xo rfl (fun _ => ok_sliceFrom rfl Tryz.underlying31 sz26 (vl rfl) (vl rfl) (by omega) (by omega)) ?_))
 refine Cx.ef 0 rfl rfl (by decide) (ef_append rfl rfl (by decide) rfl Tryz.underlying31 sz26 by26 z26 rfl (by decide) (vl rfl) (vl rfl) (by simp; unfold maxLen; omega) (by simp; omega) appR_slot) ?_
 refine Cx.ef 0 rfl rfl (by decide) (ef_move rfl rfl (by decide) rfl (vl rfl)) ?_
 refine Cx.nil ⟨rfl, ?_⟩
 refine FinX.open_ 0 4 rfl rfl (fun v3 => ?_)
 refine FinX.done (AllC.cons (AllC.map _)) (Fin.go (wk1 4 rfl (Tr.ret (Fin.ret1 rfl (OutW.bse _ _) rfl ?_))))
 · exfalso; omega
 iterate 8 refine cnt h5 rfl ?_
 refine co rfl (kpf rfl rfl h5 rfl) (Ch.nil (Fin.go (wk4 0 3 5 33 rfl (Tr.cond rfl (fun h => nomatch h) (fun _ => ?_)))))
 refine Tr.skip (Fin.go (Tr.seq (Tr.pad (Tr.regX mixed [none, none, none, none, some (0, 0, true, 39), none, none, some (39, 0, true, 42), none, none, none, some (42, 0, true, 46), some (46, 0, true, 4)] (by kernel_rfl) (xo rfl (fun _ => ok_buildSlice (xs := []) (rows := []) rfl rfl Tryz.underlying31 sz26 z26 rfl (by decide) trivial (by decide)) (xm rfl (xm rfl (xo rfl (fun _ => ok_sliceTo rfl Tryz.underlying31 sz26 (vl rfl) (vl rfl) (by omega) (by omega)) ?_))))))))
 refine Cx.ef 0 rfl rfl (by decide) (ef_append rfl rfl (by decide) rfl Tryz.underlying31 sz26 by26 z26 rfl (by decide) ⟨_, rfl, full_le _ _⟩ (vl rfl) (by simp; unfold maxLen; omega) (by simp; omega) (appR_full (by exact List.Mem.head _) (vl rfl))) ?_
 refine xo rfl (fun _ => ok_loadA rfl agg26 sz26 (vl rfl) rfl rfl) (xo rfl (fun _ => ok_buildSlice (xs := [.tmp 40]) (rows := [_]) rfl rfl Tryz.underlying31 sz26 z26 rfl (by decide) ⟨⟨(by exact rfl), (VL.le (vl rfl) (agg_cellsP _))⟩, trivial⟩ (by decide)) ?_)
 refine Cx.ef 0 rfl rfl (by decide) (ef_append rfl rfl (by decide) rfl Tryz.underlying31 sz26 by26 z26 rfl (by decide) (vl rfl) ⟨_, rfl, full_le _ _⟩ (by simp; unfold maxLen; omega) (by simp; omega) appR_slot) ?_
 refine xm rfl (xm rfl (xo rfl (fun _ => ok_sliceFrom rfl Tryz.underlying31 sz26 (vl rfl) (vl rfl) (by omega) (by omega)) ?_))
 refine Cx.ef 0 rfl rfl (by decide) (ef_append rfl rfl (by decide) rfl Tryz.underlying31 sz26 by26 z26 rfl (by decide) (vl rfl) (vl rfl) (by simp; unfold maxLen; omega) (by simp; omega) appR_slot) ?_
 refine Cx.ef 0 rfl rfl (by decide) (ef_move rfl rfl (by decide) rfl (vl rfl)) ?_
 refine Cx.nil ⟨rfl, ?_⟩
 refine FinX.open_ 0 4 rfl rfl (fun v4 => ?_)
 refine FinX.done (AllC.cons (AllC.map _)) (Fin.go (wk1 4 rfl (Tr.ret (Fin.ret1 rfl (OutW.bse _ _) rfl ?_))))
 · rw [putF_new (kF_eq hk hgt (.inl (by omega))) (.inl (by omega))]; exact Pr.le_trans (andIs_le _ _) (Pr.le_of_eq (by show slice 11 _ = slice 11 _; rw [Int.toNat_natCast, List.map_append, List.map_append, List.map_take, List.map_drop, List.nil_append]; rfl))
theorem kF_le (l : List Fnd) (f : Fnd) : kF l f ≤ l.length := by
  unfold kF
  have := (List.dropWhile_sublist (l := l.reverse) (fun x => decide (0 < ordF x f))).length_le
  simpa using this
theorem putF_len (l : List Fnd) (f : Fnd) : (putF l f).length ≤ l.length + 1 := by
  have := kF_le l f
  unfold putF; split
  · omega
  · simp; omega
theorem fold_len : ∀ (l acc : List Fnd), (l.foldl putF acc).length ≤ acc.length + l.length
  | [], acc => by simp
  | f :: l, acc => by
    have h1 := fold_len l (putF acc f)
    have h2 := putF_len acc f
    rw [List.foldl_cons, List.length_cons]; omega
theorem fold_take {l : List Fnd} {k : Nat} {x : Fnd} (hx : l[k]? = some x) : putF ((l.take k).foldl putF []) x = (l.take (k + 1)).foldl putF [] := by
  rw [List.take_add_one, hx, List.foldl_append]; rfl
theorem fold_len' (l : List Fnd) (k : Nat) : ((l.take k).foldl putF []).length ≤ k := by
  have := fold_len (l.take k) []
  have h2 := List.length_take_le k l
  simp at this; omega

set_option maxRecDepth 20000 in
theorem w_R14Norm {l : List Fnd} (hc : ∀ f ∈ l, checkF f = true) (hl : l.length ≤ 400) : Fun Tryz.prog 58 [fnds l] (tup [fnds (l.foldl putF []), int 0]) := by
 refine Fun.of Tryz.func58 rfl rfl (by exact Nat.le_of_ble_eq_true rfl) fun M0 w0 => ?_
 refine Tr.seq (Tr.reg0 (cm rfl (cm rfl (Ch.nil (Fin.go (Tr.seq (Tr.seq (Tr.reg0 (cm rfl (Ch.nil (Fin.go (Tr.block (Tr.loopw [(0, _)] ⟨ke rfl, trivial⟩ (fun k : Nat => [(4, int ((k : Nat) : Int))]) (fun k : Nat => k ≤ (l).length) (fun k : Nat => (l).length - k) 0 (Nat.zero_le _) ⟨ke rfl, trivial⟩ ?_)))))))))))))
 rintro k hle_k
 refine Tr.seq (Tr.seq (Tr.reg0 (cm rfl (cm rfl (co rfl (ok_lenm rfl Tryz.underlying31 (vl rfl)) (co rfl (ki rfl rfl rfl rfl) (Ch.nil (Fin.go ?_))))))))
 refine Tr.cn rfl ?_ ?_ <;> intro h1 q1
 have hk_k : k < (l).length := lt_of_dec h1
 obtain ⟨x, hx_k⟩ := at_ hk_k
 refine Tr.skip (Fin.go (Tr.seq (Tr.block (Tr.seq (Tr.reg0 (cm rfl (cm rfl (co rfl (ok_indexAddr rfl Tryz.underlying31 sz26 (vl rfl) (vl rfl) (by omega) (by exact row_at (by assumption))) ?_))))))))
 refine co rfl (ok_loadA rfl agg26 sz26 (vl rfl) rfl rfl) (co rfl (ok_call rfl (w_R14Check) ⟨ke rfl, trivial⟩) (cm rfl (Ch.nil (Fin.go (Tr.seq (Tr.reg0 (cm rfl (co rfl (ki rfl rfl rfl rfl) (Ch.nil (Fin.go (wk4 0 4 5 20 rfl ?_)))))))))))
 refine Tr.cn rfl ?_ ?_ <;> intro h2 q2
 exact absurd (if_pos (hc x (List.mem_of_getElem? hx_k))) q2
 refine Tr.skip (Fin.block (Fin.go (Tr.reg0 (cm rfl (cad rfl rfl rfl rfl (by omega) (cm rfl (Ch.nil (Fin.fam_same (k + 1) ⟨hk_k, by omega⟩ ⟨⟨_, rfl, int_succ k⟩, ke rfl, trivial⟩))))))))
 have he_k : k = (l).length := by have := ge_of_dec h1; omega
 subst he_k
 refine Tr.exit (Fin.then_exit (Fin.then_exit (Fin.block_here (Fin.go (Tr.seq (Tr.reg0 (cm rfl (Ch.nil (Fin.go (Tr.seq (Tr.seq (Tr.reg0 (cm rfl ?_)))))))))))))
 refine Ch.nil (Fin.go (Tr.block (Tr.loopw [(0, _)] ⟨ke rfl, trivial⟩ (fun m : Nat => [(7, int ((m : Nat) : Int)), (6, fnds ((l.take m).foldl putF []))]) (fun m : Nat => m ≤ (l).length) (fun m : Nat => (l).length - m) 0 (Nat.zero_le _) ⟨ke rfl, ⟨_, rfl, nil_slice 11⟩, trivial⟩ ?_)))
 rintro m hle_m
 refine Tr.seq (Tr.seq (Tr.reg0 (cm rfl (cm rfl (co rfl (ok_lenm rfl Tryz.underlying31 (vl rfl)) (co rfl (ki rfl rfl rfl rfl) (Ch.nil (Fin.go ?_))))))))
 refine Tr.cn rfl ?_ ?_ <;> intro h3 q3
 have hk_m : m < (l).length := lt_of_dec h3
 obtain ⟨y, hx_m⟩ := at_ hk_m
 refine Tr.skip (Fin.go (Tr.seq (Tr.block (Tr.seq (Tr.reg0 (cm rfl (cm rfl (cm rfl (co rfl (ok_indexAddr rfl Tryz.underlying31 sz26 (vl rfl) (vl rfl) (by omega) (by exact row_at (by assumption))) ?_)))))))))
 refine co rfl (ok_loadA rfl agg26 sz26 (vl rfl) rfl rfl) ?_
 refine co rfl (ok_call rfl (w_put (l := (l.take m).foldl putF []) (f := y) (by have := fold_len' l m; omega)) ⟨ke rfl, ke rfl, trivial⟩) ?_
 refine cm rfl (Ch.nil (Fin.go (wk3 0 6 7 rfl (Tr.seq (Tr.reg0 (cm rfl (co rfl (ok_lenm rfl Tryz.underlying31 (vl rfl)) (co rfl (ki rfl rfl rfl rfl) (Ch.nil (Fin.go ?_))))))))))
 refine Tr.cn rfl ?_ ?_ <;> intro h4 q4
 exfalso; rw [fold_take hx_m] at q4; have := fold_len' l (m + 1); omega
 refine Tr.skip (Fin.block (Fin.go (Tr.reg0 (cm rfl (cad rfl rfl rfl rfl (by omega) (cm rfl (Ch.nil (Fin.fam_same (m + 1) ⟨hk_m, by omega⟩ ⟨⟨_, rfl, int_succ m⟩, ⟨_, rfl, Pr.le_of_eq (by rw [fold_take hx_m])⟩, ke rfl, trivial⟩))))))))
 have he_m : m = (l).length := by have := ge_of_dec h3; omega
 subst he_m
 refine Tr.exit (Fin.then_exit (Fin.then_exit (Fin.block_here (Fin.go (Tr.seq (Tr.reg0 (cm rfl (cm rfl (cm rfl (Ch.nil (Fin.go (Tr.ret (Fin.ret2 rfl (OutW.bse _ _) rfl ?_ rfl ?_)))))))))))))
 · exact Pr.le_of_eq (by rw [List.take_length])
 · exact Pr.le_refl _
theorem cmpI_swap (a b : Int) : cmpI b a = - cmpI a b := by unfold cmpI; by_cases h1 : a < b <;> by_cases h2 : b < a <;> simp [h1, h2] <;> omega
theorem orL_neg : ∀ l : List Int, orL (l.map fun x => -x) = - orL l
  | [] => rfl
  | a :: l => by
    have ih := orL_neg l
    show (if -a = 0 then orL (l.map fun x => -x) else -a) = - (if a = 0 then orL l else a)
    by_cases h : a = 0
    · rw [if_pos (by omega), if_pos h, ih]
    · rw [if_neg (by omega), if_neg h]
theorem ordF_swap (a b : Fnd) : ordF b a = - ordF a b := by
  unfold ordF
  rw [← orL_neg]
  unfold keysF
  simp only [List.map_cons, List.map_nil]
  rw [cmp_swap a.host b.host, cmp_swap a.subj b.subj, cmp_swap a.text b.text, cmpI_swap a.machine, cmpI_swap a.day, cmpI_swap a.kind, cmpI_swap a.alg, cmpI_swap a.bits, cmpI_swap a.num, cmpI_swap a.src, cmpI_swap a.conf]
theorem dropWhile_spec {β : Type} {p : β → Bool} : ∀ (l : List β), ∃ m, l = m ++ l.dropWhile p ∧ (∀ x ∈ m, p x = true) ∧ ∀ y r, l.dropWhile p = y :: r → p y = false
  | [] => ⟨[], rfl, by simp, fun y r h => by cases h⟩
  | a :: l => by
    by_cases h : p a = true
    · obtain ⟨m, h1, h2, h3⟩ := dropWhile_spec (p := p) l
      refine ⟨a :: m, ?_, ?_, ?_⟩
      · rw [List.dropWhile_cons_of_pos h, List.cons_append, ← h1]
      · intro x hx
        rcases List.mem_cons.1 hx with rfl | hx
        · exact h
        · exact h2 x hx
      · intro y r hy; rw [List.dropWhile_cons_of_pos h] at hy; exact h3 y r hy
    · refine ⟨[], ?_, by simp, ?_⟩
      · rw [List.dropWhile_cons_of_neg h]; rfl
      · intro y r hy; rw [List.dropWhile_cons_of_neg h] at hy; injection hy with h1 _; subst h1; simpa using h
theorem kF_spec (l : List Fnd) (f : Fnd) : (∀ y, l[kF l f]? = some y → 0 < ordF y f) ∧ (∀ x, 0 < kF l f → l[kF l f - 1]? = some x → ordF x f ≤ 0) := by
  obtain ⟨m, h1, h2, h3⟩ := dropWhile_spec (p := fun x => decide (0 < ordF x f)) l.reverse
  have hk : kF l f = (l.reverse.dropWhile fun x => decide (0 < ordF x f)).length := rfl
  generalize l.reverse.dropWhile (fun x => decide (0 < ordF x f)) = d at *
  have hl : l = d.reverse ++ m.reverse := by rw [← List.reverse_append, ← h1, List.reverse_reverse]
  refine ⟨fun y hy => ?_, fun x h0 hx => ?_⟩
  · rw [hk, hl, List.getElem?_append_right (by simp)] at hy
    have := h2 y (by have := List.mem_of_getElem? hy; simpa using this)
    simpa using this
  · cases d with
    | nil => rw [hk] at h0; cases h0
    | cons y r =>
      have hx2 : x = y := by
        rw [hk, hl, List.getElem?_append_left (by simp)] at hx
        rw [List.reverse_cons, List.getElem?_append_right (by simp)] at hx
        simpa using hx.symm
      have := h3 y r rfl
      rw [hx2]; simpa using this
theorem put_adj {l : List Fnd} (f : Fnd) (h : AdjF l) : AdjF (putF l f) := by
  obtain ⟨h1, h2⟩ := kF_spec l f
  have hk := kF_le l f
  unfold putF
  split
  · exact h
  · rename_i hn
    generalize kF l f = k at *
    have hlen : (l.take k).length = k := by rw [List.length_take]; omega
    intro j a b ha hb
    rw [List.append_assoc] at ha hb
    rcases Nat.lt_trichotomy (j + 1) k with hj | hj | hj
    · rw [List.getElem?_append_left (by omega), List.getElem?_take, if_pos (by omega)] at ha
      rw [List.getElem?_append_left (by omega), List.getElem?_take, if_pos (by omega)] at hb
      exact h j a b ha hb
    · rw [List.getElem?_append_left (by omega), List.getElem?_take, if_pos (by omega)] at ha
      rw [List.getElem?_append_right (by omega), hlen, show j + 1 - k = 0 by omega] at hb
      simp at hb; subst hb
      have ha' : l[k - 1]? = some a := by rw [show k - 1 = j by omega]; exact ha
      have h3 := h2 a (by omega) ha'
      rcases Int.lt_or_eq_of_le h3 with h4 | h4
      · exact h4
      · exact absurd ⟨by omega, by rw [ha']; simp [h4]⟩ hn
    · rcases Nat.eq_or_lt_of_le (Nat.le_of_lt_succ hj) with hj2 | hj2
      · rw [List.getElem?_append_right (by omega), hlen, show j - k = 0 by omega] at ha
        simp at ha; subst ha
        rw [List.getElem?_append_right (by omega), hlen, show j + 1 - k = 1 by omega] at hb
        simp at hb
        have := h1 b (by simpa using hb)
        rw [ordF_swap b f]; omega
      · rw [List.getElem?_append_right (by omega), hlen, show j - k = (j - k - 1) + 1 by omega] at ha
        rw [List.getElem?_append_right (by omega), hlen, show j + 1 - k = (j - k) + 1 by omega] at hb
        simp at ha hb
        exact h (j - 1) a b (by rw [show j - 1 = k + (j - k - 1) by omega]; exact ha) (by rw [show j - 1 + 1 = k + (j - k) by omega]; exact hb)
theorem put_mem {l : List Fnd} {f x : Fnd} (h : x ∈ putF l f) : x ∈ l ∨ x = f := by
  unfold putF at h
  split at h
  · exact .inl h
  · simp only [List.mem_append, List.mem_singleton] at h
    rcases h with (h | h) | h
    · exact .inl (List.mem_of_mem_take h)
    · exact .inr h
    · exact .inl (List.mem_of_mem_drop h)
theorem fold_adj : ∀ (l acc : List Fnd), AdjF acc → AdjF (l.foldl putF acc)
  | [], _, h => h
  | f :: l, acc, h => fold_adj l _ (put_adj f h)
theorem fold_mem : ∀ (l acc : List Fnd) {x : Fnd}, x ∈ l.foldl putF acc → x ∈ acc ∨ x ∈ l
  | [], _, _, h => .inl h
  | f :: l, acc, x, h => by
    rcases fold_mem l _ h with h1 | h1
    · rcases put_mem h1 with h2 | h2
      · exact .inl h2
      · exact .inr (by simp [h2])
    · exact .inr (List.mem_cons_of_mem _ h1)
theorem norm_ok {l : List Fnd} (hc : ∀ f ∈ l, checkF f = true) (hl : l.length ≤ 400) : NormP (l.foldl putF []) :=
  ⟨fun f hf => by rcases fold_mem l [] hf with h | h; exact absurd h (by simp); exact hc f h, fold_adj l [] (fun j a b h => by simp at h), by have := fold_len l []; simp at this; omega⟩

end Go.Proofs.YtgdlhajfajddiaaGreat
namespace Go.Proofs.YtgdlhajfajddiaaGreat
open Go Go.RowKit Cp

abbrev diceS (b : Nat) (s : DS) : Res := diceR 88 b s
theorem mod_pos (n : Int) {k : Int} (hk : 1 ≤ k) : (n.tmod k + k).tmod k = n % k := by
  have h1 : -k < n.tmod k := by have := Int.lt_tmod_of_pos n (b := k) (by omega); omega
  rw [Int.tmod_eq_emod_of_nonneg (by omega), Int.tmod_def, show n - k * n.tdiv k + k = n + k * (1 - n.tdiv k) by rw [Int.mul_sub]; omega, Int.add_mul_emod_self_left]
theorem mod_in (n : Int) {k : Int} (hk : 1 ≤ k) : -k < n.tmod k ∧ n.tmod k < k := by
  have h1 := Int.lt_tmod_of_pos n (b := k) (by omega)
  have h2 := Int.tmod_lt_of_pos n (b := k) (by omega)
  omega

set_option maxRecDepth 20000 in
theorem w_Light {l : List Int}  : Fun Tryz.prog 9 [ints l] (bool (decide (l.length ≤ 400))) := by
 refine Fun.of Tryz.func9 rfl rfl (by exact Nat.le_of_ble_eq_true rfl) fun M0 w0 => ?_
 refine Tr.seq (Tr.reg0 (cm rfl (Ch.nil (Fin.go (Tr.seq (Tr.reg0 (cm rfl (co rfl (ok_lenm rfl Tryz.underlying22 (vl rfl)) (co rfl (ki rfl rfl rfl rfl) (cm rfl (Ch.nil (Fin.go (Tr.ret (Fin.ret1 rfl (OutW.bse _ _) rfl ?_))))))))))))))
 · refine bool_eq ?_; simp_all; omega
set_option maxRecDepth 20000 in
theorem w_Mod {n k : Int} (hk : 1 ≤ k) (hk2 : k ≤ 1000000000) : Fun Tryz.prog 36 [int n, int k] (int (n % k)) := by
 refine Fun.of Tryz.func36 rfl rfl (by exact Nat.le_of_ble_eq_true rfl) fun M0 w0 => ?_
 have hm := mod_in n hk
 have hp := mod_pos n hk
 refine Tr.seq (Tr.reg0 (cm rfl (Ch.nil (Fin.go (Tr.seq (Tr.seq (Tr.reg0 (cm rfl (co rfl (ki rfl rfl rfl rfl) (Ch.nil (Fin.go ?_)))))))))))
 refine Tr.cn rfl ?_ ?_ <;> intro h1 q1
 refine Tr.seq (Tr.reg0 (cm rfl (Ch.nil (Fin.go (Tr.ret (Fin.then_ret (Fin.ret1 rfl (OutW.bse _ _) rfl ?_)))))))
 · exfalso; omega
 refine Tr.skip (Fin.go (Tr.seq (Tr.reg0 (cm rfl (cm rfl (co rfl (ok_rem rfl (vl rfl) (vl rfl) (by omega)) (cm rfl (cad rfl rfl rfl rfl (by omega) (cm rfl (co rfl (ok_rem rfl (vl rfl) (vl rfl) (by omega)) (cm rfl (Ch.nil (Fin.go (Tr.ret ?_))))))))))))))
 refine Fin.ret1 rfl (OutW.bse _ _) rfl ?_
 · refine int_eq ?_; exact hp
set_option maxRecDepth 20000 in
theorem w_DNext {b : Nat} {s : DS} {n : Int} (hn : 1 ≤ n) (hn2 : n ≤ 1000000000) : FunM Tryz.prog 13 [ptr b 0, int n] (int (s.val n)) (diceS b s) (fun _ => diceS b s.adv) := by
 refine FunM.of Tryz.func13 rfl rfl (by exact Nat.le_of_ble_eq_true rfl) fun M0 w0 S rs M1 w1 => ?_
 have hs := s.h
 have hs2 := s.h2
 refine Tr.seq (Tr.reg0 (cm rfl (Ch.nil (Fin.go (Tr.seq (Tr.seq (Tr.reg1 mixed (by kernel_rfl) (cm rfl (co rfl (okp_nilCheck rfl (vl rfl)) (co rfl (okp_fieldAddr rfl fo88_1 (vl rfl)) (co rfl (ok_rd 0 rfl (rd_load1 rfl one3 (vl rfl) rfl)) (cm rfl (co rfl (okp_nilCheck rfl (vl rfl)) ?_)))))))))))))
 refine co rfl (okp_fieldAddr rfl fo88_0 (vl rfl)) (co rfl (ok_rd 0 rfl (rd_load1 rfl one22 (vl rfl) rfl)) (co rfl (ok_lenm rfl Tryz.underlying22 (vl rfl)) (co rfl (ki rfl rfl rfl rfl) (Ch.nil (Fin.go ?_)))))
 refine Tr.cn rfl ?_ ?_ <;> intro h1 q1
 refine Tr.seq (Tr.reg0 (cm rfl (Ch.nil (Fin.go (Tr.ret (Fin.then_ret ?_))))))
 rw [DS.adv_end (s := s) (by omega)]
 refine Fin.retY1 [] rfl (RVal.tmp rfl (Pr.le_refl _)) ?_ (fun _ _ _ _ => rfl)
 · refine int_eq ?_; exact (DS.val_end (by omega) n).symm
 have hlt : s.at_ < s.l.length := by omega
 obtain ⟨x, hx⟩ := at_ hlt
 refine Tr.skip (Fin.go (Tr.seq (Tr.regT (tm rfl (tp rfl (okp_nilCheck rfl (vl rfl)) (tp rfl (okp_fieldAddr rfl fo88_1 (vl rfl)) (TO.rd 0 rfl rfl rfl (by decide) (rd_load1 rfl one3 (vl rfl) rfl) ?_)))))))
 refine tp rfl (ok_add rfl (vl rfl) (vl rfl) ?hin) ?_; case hin => unfold InI; omega
 refine tp rfl (okp_nilCheck rfl (vl rfl)) (tp rfl (okp_fieldAddr rfl fo88_1 (vl rfl)) (TO.ef0 0 rfl rfl (ef_store rfl rfl (vl rfl) (VL.le (vl rfl) (one_cellsP _)) sz3 rfl (by exact Nat.le_of_ble_eq_true rfl) rfl) (TO.nil (Fin.go (wk2 0 1 rfl (Tr.seq (Tr.reg1 mixed (by kernel_rfl) (cm rfl (co rfl (okp_nilCheck rfl (vl rfl)) (co rfl (okp_fieldAddr rfl fo88_0 (vl rfl)) (co rfl (ok_rd 0 rfl (rd_load1 rfl one22 (vl rfl) rfl)) (cm rfl (co rfl (okp_nilCheck rfl (vl rfl)) ?_)))))))))))))
 refine co rfl (okp_fieldAddr rfl fo88_1 (vl rfl)) (co rfl (ok_rd 0 rfl (rd_load1 rfl one3 (vl rfl) rfl)) (csu rfl rfl rfl rfl (by omega) ?_))
 refine co rfl (ok_indexAddr rfl Tryz.underlying22 sz3 (vl rfl) (vl rfl) (by omega) (by rw [show ((s.at_ : Nat) : Int) + 1 - 1 = ((s.at_ : Nat) : Int) by omega]; exact row_at hx)) ?_
 refine co rfl (kl1 rfl one3 rfl) (cm rfl (co rfl (ok_call rfl (w_Mod (by omega) (by omega)) ⟨ke rfl, ke rfl, trivial⟩) (cm rfl (Ch.nil (Fin.go (wk1 4 rfl (Tr.ret ?_)))))))
 rw [DS.adv_at hlt]
 refine Fin.retY1 [] rfl (RVal.tmp rfl (Pr.le_refl _)) ?_ (fun _ _ _ _ => rfl)
 · refine int_eq ?_; exact (DS.val_at hx n).symm
set_option maxRecDepth 20000 in
theorem w_DOf {b : Nat} {s : DS} {l : List Int} (hl : l ≠ []) (hl2 : l.length ≤ 1000000000) : FunM Tryz.prog 35 [ptr b 0, ints l] (int (s.of l)) (diceS b s) (fun _ => diceS b s.adv) := by
 refine FunM.of Tryz.func35 rfl rfl (by exact Nat.le_of_ble_eq_true rfl) fun M0 w0 S rs M1 w1 => ?_
 have hl0 : 1 ≤ (l.length : Int) := by have := List.length_pos_iff.2 hl; omega
 have hv := s.val_in hl0
 obtain ⟨x, hx⟩ := at_ (l := l) (k := (s.val l.length).toNat) (by omega)
 refine Tr.seq (Tr.reg0 (cm rfl (Ch.nil (Fin.go (Tr.seq (Tr.regT (tm rfl (tm rfl (tm rfl (tp rfl (ok_lenm rfl Tryz.underlying22 (vl rfl)) (TO.efc 0 rfl rfl (by decide) (ef_callc rfl rfl (by decide) rfl (w_DNext (by omega) (by omega)) ⟨ke rfl, ke rfl, trivial⟩) (tp rfl (ok_indexAddr rfl Tryz.underlying22 sz3 (vl rfl) (vl rfl) (by omega) (row_atI hx)) (tp rfl (kl1 rfl one3 rfl) ?_)))))))))))))
 refine tm rfl (TO.nil (Fin.go (Tr.ret (Fin.retY1 [] rfl (RVal.tmp rfl (Pr.le_refl _)) ?_ (fun _ _ _ _ => rfl)))))
 · refine int_eq ?_; unfold DS.of; rw [hx]; rfl
/-- New dice. -/
def newDice (l : List Int) (hl : l.length ≤ 1000000000) (v : Value) : Res := match v with | .pointer (some a) => diceR 88 a.block ⟨l, 0, Nat.zero_le _, hl⟩ | _ => noRes

set_option maxRecDepth 20000 in
theorem w_Roll {l : List Int} (hl : l.length ≤ 1000000000) : FunM Tryz.prog 11 [ints l] (ex fun b => ptr b 0) (noRes) (newDice l hl) := by
 refine FunM.of Tryz.func11 rfl rfl (by exact Nat.le_of_ble_eq_true rfl) fun M0 w0 S rs M1 w1 => ?_
 refine Tr.seq (Tr.reg0 (cm rfl (Ch.nil (Fin.go (Tr.seq (Tr.regT (tm rfl (tp rfl (ok_build (rows := [(0, [_])]) rfl bl88 zo88 ⟨⟨rfl, (VL.le (vl rfl) (one_cellsP _))⟩, trivial⟩ rfl) ?_))))))))
 refine TO.boxm rfl rfl (by decide) rfl (VL.le (vl rfl) (agg_cellsP _)) (fun b1 => ?_)
 refine tm rfl (TO.nil (Fin.go (Tr.ret (Fin.drop 1 ?_))))
 refine Fin.retY1 [] rfl (RVal.tmp rfl (Pr.le_refl _)) ?_ (by rintro _ _ _ rfl; rfl)
 · exact ex_in b1 (Pr.le_refl _)
end Go.Proofs.YtgdlhajfajddiaaGreat
namespace Go.Proofs.YtgdlhajfajddiaaGreat
open Go Go.RowKit Cp

def word_ (s : DS) (l : List (List UInt8)) : List UInt8 := (l[(s.val l.length).toNat]?).getD []
theorem word_mem (s : DS) {l : List (List UInt8)} (h : l ≠ []) : word_ s l ∈ l := by
  have h0 : 1 ≤ (l.length : Int) := by
    have := List.length_pos_iff.2 h
    omega
  have := s.val_in h0
  unfold word_
  rw [List.getElem?_eq_getElem (by omega)]
  exact List.getElem_mem _
abbrev strs (l : List (List UInt8)) : Pr := slice 1 (l.map fun t => [str t])
/-- A finding as the dice make it. -/
structure GoodF (f : Fnd) : Prop where
  check : checkF f = true
  fits : f.fits
  day : 0 ≤ f.day ∧ f.day < 12
structure GoodFs (l : List Fnd) (m : Nat) : Prop where
  norm : NormP l
  fits : ∀ f ∈ l, f.fits
  len : l.length ≤ m
  day : ∀ f ∈ l, 0 ≤ f.day ∧ f.day < 12
theorem named_abc {t : List UInt8} (h : t ∈ [[97], [98], [99]]) : named t = true ∧ t.length ≤ maxLen := by
  simp only [List.mem_cons, List.not_mem_nil, or_false] at h
  rcases h with rfl | rfl | rfl <;> exact ⟨by decide, by decide⟩
theorem named_st {t : List UInt8} (h : t ∈ [[115], [116]]) : named t = true ∧ t.length ≤ maxLen := by
  simp only [List.mem_cons, List.not_mem_nil, or_false] at h
  rcases h with rfl | rfl <;> exact ⟨by decide, by decide⟩
theorem named_ab {t : List UInt8} (h : t ∈ [[97], [98]]) : named t = true ∧ t.length ≤ maxLen := by
  simp only [List.mem_cons, List.not_mem_nil, or_false] at h
  rcases h with rfl | rfl <;> exact ⟨by decide, by decide⟩
theorem good_mk {f : Fnd} (h1 : 1 ≤ f.src ∧ f.src ≤ 7) (h2 : named f.host = true) (h3 : 0 ≤ f.machine ∧ f.machine ≤ 3) (h4 : 0 ≤ f.day ∧ f.day < 12) (h5 : 1 ≤ f.conf ∧ f.conf ≤ 100) (h6 : named f.subj = true) (h7 : contentF f = true)
    (l1 : f.host.length ≤ maxLen) (l2 : f.subj.length ≤ maxLen) (l3 : f.text.length ≤ maxLen) : GoodF f := by
  refine ⟨?_, ⟨l1, l2, l3⟩, h4⟩
  unfold checkF whereF whenF
  rw [h2, h6, h7]
  simp; omega
theorem all_snocF {β : Type} {p : β → Prop} {l : List β} {x : β} (h : ∀ y ∈ l, p y) (hx : p x) : ∀ y ∈ l ++ [x], p y := by
  intro y hy
  rcases List.mem_append.1 hy with hy | hy
  · exact h y hy
  · rw [List.mem_singleton.1 hy]; exact hx
theorem good_fold {l : List Fnd} {m : Nat} (h : ∀ f ∈ l, GoodF f) (hm : l.length ≤ m ∧ l.length ≤ 400) : GoodFs (l.foldl putF []) m := by
  have hmem : ∀ f ∈ l.foldl putF [], f ∈ l := fun f hf => by rcases fold_mem l [] hf with h1 | h1; exact absurd h1 (by simp); exact h1
  have hlen := fold_len l []
  simp at hlen
  exact ⟨norm_ok (fun f hf => (h f hf).check) hm.2, fun f hf => (h f (hmem f hf)).fits, by omega, fun f hf => (h f (hmem f hf)).day⟩
def useL : List (Int × Int) := [(1, 0), (2, 0), (5, 1024), (14, 128)]
theorem useL_ok : ∀ u ∈ useL, strength u.1 u.2 > 0 := by decide

set_option maxRecDepth 20000 in
theorem w_DWord {b : Nat} {s : DS} {l : List (List UInt8)} (hl : l ≠ []) (hl2 : l.length ≤ 1000000000) : FunM Tryz.prog 19 [ptr b 0, strs l] (str (word_ s l)) (diceS b s) (fun _ => diceS b s.adv) := by
 refine FunM.of Tryz.func19 rfl rfl (by exact Nat.le_of_ble_eq_true rfl) fun M0 w0 S rs M1 w1 => ?_
 have hl0 : 1 ≤ (l.length : Int) := by have := List.length_pos_iff.2 hl; omega
 have hv := s.val_in hl0
 obtain ⟨x, hx⟩ := at_ (l := l) (k := (s.val l.length).toNat) (by omega)
 refine Tr.seq (Tr.reg0 (cm rfl (Ch.nil (Fin.go (Tr.seq (Tr.regT (tm rfl (tm rfl (tm rfl (tp rfl (ok_lenm rfl Tryz.underlying53 (vl rfl)) (TO.efc 0 rfl rfl (by decide) (ef_callc rfl rfl (by decide) rfl (w_DNext (by omega) (by omega)) ⟨ke rfl, ke rfl, trivial⟩) (tp rfl (ok_indexAddr rfl Tryz.underlying53 sz9 (vl rfl) (vl rfl) (by omega) (row_atI hx)) (tp rfl (kl1 rfl one9 rfl) ?_)))))))))))))
 refine tm rfl (TO.nil (Fin.go (Tr.ret (Fin.retY1 [] rfl (RVal.tmp rfl (Pr.le_refl _)) ?_ (fun _ _ _ _ => rfl)))))
 · refine str_eq ?_; unfold word_; rw [hx]; rfl
set_option maxRecDepth 20000 in
set_option maxHeartbeats 400000 in
theorem w_Finding {b : Nat} {s : DS}  : FunM Tryz.prog 14 [ptr b 0] (ex fun f : Fnd => fact (GoodF f) (agg (rowF f))) (diceS b s) (fun _ => diceEx 88 b) := by
 refine FunM.of Tryz.func14 rfl rfl (by exact Nat.le_of_ble_eq_true rfl) fun M0 w0 S rs M1 w1 => ?_
 refine Tr.seq (Tr.regT ?_)
 refine TO.alloc rfl rfl (by decide) rfl z26 zo26 (fun b1 => ?_)
 refine TO.nil (Fin.go (Tr.seq ?_))
 have f1 := s.val_in (n := 7) (by omega)
 have f2 := named_abc (word_mem (s.adv) (l := [[97], [98], [99]]) (by simp))
 have f3 := (s.adv.adv).of_mem (l := [0, 1, 2, 0, 3]) (by simp)
 have f4 := (s.adv.adv.adv).val_in (n := 12) (by omega)
 have f5 := (s.adv.adv.adv.adv).of_mem (l := [90, 50, 100, 1]) (by simp)
 have f6 := (s.adv.adv.adv.adv.adv).val_in (n := 8) (by omega)
 have f7 := named_st (word_mem (s.adv.adv.adv.adv.adv.adv) (l := [[115], [116]]) (by simp))
 
 refine Tr.regT (tm rfl (TO.efc 1 rfl rfl (by decide) (ef_callc rfl rfl (by decide) rfl (w_DNext (by omega) (by omega)) ⟨ke rfl, ke rfl, trivial⟩) ?_))
 refine tp rfl (ok_add rfl (vl rfl) (vl rfl) ?hin) ?_; case hin => unfold InI; omega
 refine tm rfl (tp rfl (ok_buildSlice (xs := [.const (.string ⟨[97].toArray⟩), .const (.string ⟨[98].toArray⟩), .const (.string ⟨[99].toArray⟩)]) (rows := [[_], [_], [_]]) rfl rfl Tryz.underlying53 sz9 z9 rfl (by decide) ⟨⟨(by exact rfl), (VL.le (vl rfl) (one_cellsP _))⟩, ⟨⟨(by exact rfl), (VL.le (vl rfl) (one_cellsP _))⟩, ⟨⟨(by exact rfl), (VL.le (vl rfl) (one_cellsP _))⟩, trivial⟩⟩⟩ (by decide)) ?_)
 refine TO.efc 1 rfl rfl (by decide) (ef_callc rfl rfl (by decide) rfl (w_DWord (l := [[97], [98], [99]]) (by simp) (by simp)) ⟨ke rfl, ⟨_, rfl, full_le _ _⟩, trivial⟩) ?_
 refine tm rfl (tp rfl (ok_buildSlice (xs := [.const (.int .i64 (0)), .const (.int .i64 (1)), .const (.int .i64 (2)), .const (.int .i64 (0)), .const (.int .i64 (3))]) (rows := [[_], [_], [_], [_], [_]]) rfl rfl Tryz.underlying22 sz3 z3 rfl (by decide) ⟨⟨(by exact rfl), (VL.le (vl rfl) (one_cellsP _))⟩, ⟨⟨(by exact rfl), (VL.le (vl rfl) (one_cellsP _))⟩, ⟨⟨(by exact rfl), (VL.le (vl rfl) (one_cellsP _))⟩, ⟨⟨(by exact rfl), (VL.le (vl rfl) (one_cellsP _))⟩, ⟨⟨(by exact rfl), (VL.le (vl rfl) (one_cellsP _))⟩, trivial⟩⟩⟩⟩⟩ (by decide)) ?_)
 refine TO.efc 1 rfl rfl (by decide) (ef_callc rfl rfl (by decide) rfl (w_DOf (l := [0, 1, 2, 0, 3]) (by simp) (by simp)) ⟨ke rfl, ⟨_, rfl, full_le _ _⟩, trivial⟩) ?_
 refine tm rfl (TO.efc 1 rfl rfl (by decide) (ef_callc rfl rfl (by decide) rfl (w_DNext (by omega) (by omega)) ⟨ke rfl, ke rfl, trivial⟩) (tm rfl (tp rfl (ok_buildSlice (xs := [.const (.int .i64 (90)), .const (.int .i64 (50)), .const (.int .i64 (100)), .const (.int .i64 (1))]) (rows := [[_], [_], [_], [_]]) rfl rfl Tryz.underlying22 sz3 z3 rfl (by decide) ⟨⟨(by exact rfl), (VL.le (vl rfl) (one_cellsP _))⟩, ⟨⟨(by exact rfl), (VL.le (vl rfl) (one_cellsP _))⟩, ⟨⟨(by exact rfl), (VL.le (vl rfl) (one_cellsP _))⟩, ⟨⟨(by exact rfl), (VL.le (vl rfl) (one_cellsP _))⟩, trivial⟩⟩⟩⟩ (by decide)) ?_)))
 refine TO.efc 1 rfl rfl (by decide) (ef_callc rfl rfl (by decide) rfl (w_DOf (l := [90, 50, 100, 1]) (by simp) (by simp)) ⟨ke rfl, ⟨_, rfl, full_le _ _⟩, trivial⟩) ?_
 refine tm rfl (TO.efc 1 rfl rfl (by decide) (ef_callc rfl rfl (by decide) rfl (w_DNext (by omega) (by omega)) ⟨ke rfl, ke rfl, trivial⟩) ?_)
 refine tp rfl (ok_add rfl (vl rfl) (vl rfl) ?hin) ?_; case hin => unfold InI; omega
 refine tm rfl (tp rfl (ok_buildSlice (xs := [.const (.string ⟨[115].toArray⟩), .const (.string ⟨[116].toArray⟩)]) (rows := [[_], [_]]) rfl rfl Tryz.underlying53 sz9 z9 rfl (by decide) ⟨⟨(by exact rfl), (VL.le (vl rfl) (one_cellsP _))⟩, ⟨⟨(by exact rfl), (VL.le (vl rfl) (one_cellsP _))⟩, trivial⟩⟩ (by decide)) ?_)
 refine TO.efc 1 rfl rfl (by decide) (ef_callc rfl rfl (by decide) rfl (w_DWord (l := [[115], [116]]) (by simp) (by simp)) ⟨ke rfl, ⟨_, rfl, full_le _ _⟩, trivial⟩) ?_
 refine tp rfl (ok_build (rows := [(0, [_]), (1, [_]), (2, [_]), (3, [_]), (4, [_]), (5, [_]), (6, [_])]) rfl bl26 zo26 ⟨⟨rfl, (VL.le (vl rfl) (one_cellsP _))⟩, ⟨⟨rfl, (VL.le (vl rfl) (one_cellsP _))⟩, ⟨⟨rfl, (VL.le (vl rfl) (one_cellsP _))⟩, ⟨⟨rfl, (VL.le (vl rfl) (one_cellsP _))⟩, ⟨⟨rfl, (VL.le (vl rfl) (one_cellsP _))⟩, ⟨⟨rfl, (VL.le (vl rfl) (one_cellsP _))⟩, ⟨⟨rfl, (VL.le (vl rfl) (one_cellsP _))⟩, trivial⟩⟩⟩⟩⟩⟩⟩ rfl) ?_
 refine TO.alloc rfl rfl (by decide) rfl z26 zo26 (fun b2 => ?_)
 refine TO.store_all 0 rfl rfl rfl (vl rfl) (VL.le (vl rfl) (agg_cellsP _)) rfl sz26 rfl rfl (TO.nil (Fin.go (wk3 0 2 3 rfl (Tr.seq (Tr.seq ?_)))))
 generalize s.adv.adv.adv.adv.adv.adv.adv = s7
 generalize s.val 7 = src at f1 ⊢
 generalize word_ (s.adv) [[97], [98], [99]] = host at f2 ⊢
 generalize (s.adv.adv).of [0, 1, 2, 0, 3] = mach at f3 ⊢
 generalize (s.adv.adv.adv).val 12 = day at f4 ⊢
 generalize (s.adv.adv.adv.adv).of [90, 50, 100, 1] = conf at f5 ⊢
 generalize (s.adv.adv.adv.adv.adv).val 8 = kd at f6 ⊢
 generalize word_ (s.adv.adv.adv.adv.adv.adv) [[115], [116]] = subj at f7 ⊢
 have g3 : 0 ≤ mach ∧ mach ≤ 3 := by simp at f3; omega
 have g5 : 1 ≤ conf ∧ conf ≤ 100 := by simp at f5; omega
 refine Tr.reC 0 [int (1 + src), str host, int mach, int day, int conf, int (1 + kd), str subj, int 0, int 0, int 0, str []] rfl ⟨Pr.le_refl _, Pr.le_refl _, Pr.le_refl _, Pr.le_refl _, Pr.le_refl _, Pr.le_refl _, Pr.le_refl _, Pr.le_refl _, Pr.le_refl _, Pr.le_refl _, Pr.le_refl _, trivial⟩ (Tr.reg0 (co rfl (okp_fieldAddr rfl fo26_5 (vl rfl)) (co rfl (ok_rd 0 rfl (rd_load1 rfl one3 (vl rfl) rfl)) (Ch.nil (Fin.go (Tr.block (Tr.seq (Tr.seq (Tr.reg0 (co rfl (ki rfl rfl rfl rfl) (cm rfl (Ch.nil (Fin.go ?_)))))))))))))
 refine Tr.cn rfl ?_ ?_ <;> intro h1 q1
 refine Tr.skip (Fin.go (Tr.cond rfl (fun _ => ?_) (fun h => nomatch h1.symm.trans h)))
 have f8 := s7.val_in (n := 4) (by omega)
 obtain ⟨u, hu⟩ := at_ (l := useL) (k := (s7.val 4).toNat) (by have : useL.length = 4 := rfl; omega)
 have hu2 := useL_ok u (List.mem_of_getElem? hu)
 refine Tr.regT (tp rfl (ok_build (rows := [(0, [_])]) rfl bl24 zo24 ⟨⟨rfl, (VL.le (vl rfl) (one_cellsP _))⟩, trivial⟩ rfl) (tp rfl (ok_build (rows := [(0, [_])]) rfl bl24 zo24 ⟨⟨rfl, (VL.le (vl rfl) (one_cellsP _))⟩, trivial⟩ rfl) (tp rfl (ok_build (rows := [(0, [_]), (1, [_])]) rfl bl24 zo24 ⟨⟨rfl, (VL.le (vl rfl) (one_cellsP _))⟩, ⟨⟨rfl, (VL.le (vl rfl) (one_cellsP _))⟩, trivial⟩⟩ rfl) (tp rfl (ok_build (rows := [(0, [_]), (1, [_])]) rfl bl24 zo24 ⟨⟨rfl, (VL.le (vl rfl) (one_cellsP _))⟩, ⟨⟨rfl, (VL.le (vl rfl) (one_cellsP _))⟩, trivial⟩⟩ rfl) (tp rfl (ok_buildSlice (xs := [.tmp 30, .tmp 31, .tmp 32, .tmp 33]) (rows := [_, _, _, _]) rfl rfl Tryz.underlying79 sz24 z24 rfl (by decide) ⟨⟨(by exact rfl), (VL.le (vl rfl) (agg_cellsP _))⟩, ⟨⟨(by exact rfl), (VL.le (vl rfl) (agg_cellsP _))⟩, ⟨⟨(by exact rfl), (VL.le (vl rfl) (agg_cellsP _))⟩, ⟨⟨(by exact rfl), (VL.le (vl rfl) (agg_cellsP _))⟩, trivial⟩⟩⟩⟩ (by decide)) ?_)))))
 refine tm rfl (TO.efc 2 rfl rfl (by decide) (ef_callc rfl rfl (by decide) rfl (w_DNext (by omega) (by omega)) ⟨ke rfl, ke rfl, trivial⟩) (tp rfl (ok_indexAddr rfl Tryz.underlying79 sz24 ⟨_, rfl, full_le _ _⟩ (vl rfl) (by omega) (row_atI (l := useL) (f := fun p : Int × Int => [int p.1, int p.2]) hu)) (tp rfl (ok_loadA rfl agg24 sz24 (vl rfl) rfl rfl) (tp rfl (okp_fieldAddr rfl fo26_7 (vl rfl)) (TO.ef0 0 rfl rfl (ef_store rfl rfl (vl rfl) (VL.le (vl rfl) (agg_cellsP _)) sz24 rfl (by exact Nat.le_of_ble_eq_true rfl) rfl) (TO.nil (Fin.block (Fin.go (wk2 2 3 rfl (Tr.seq (Tr.reC 0 [int (1 + src), str host, int mach, int day, int conf, int (1 + kd), str subj, int u.1, int u.2, int 0, str []] rfl ⟨Pr.le_refl _, Pr.le_refl _, Pr.le_refl _, Pr.le_refl _, Pr.le_refl _, Pr.le_refl _, Pr.le_refl _, Pr.le_refl _, Pr.le_refl _, Pr.le_refl _, Pr.le_refl _, trivial⟩ (Tr.regT (TO.rd 0 rfl rfl rfl (by decide) (rd_loadA rfl agg26 sz26 (vl rfl) rfl rfl) ?_)))))))))))))
 refine TO.store_all 1 rfl rfl rfl (vl rfl) (VL.le (vl rfl) (agg_cellsP _)) rfl sz26 rfl rfl (TO.nil (Fin.go (Tr.drop 0 (Tr.ret (Fin.closeD 1 _ rfl rfl (Fin.retY1 [_] rfl (RVal.cell 0 rfl rfl agg26 sz26 rfl (Pr.le_refl _)) ?_ (fun _ _ _ _ => rfl)))))))
 · refine ex_in (Fnd.mk _ _ _ _ _ _ _ _ _ _ _) (fact_in ?_ (Pr.le_refl _)); exact good_mk (by show 1 ≤ 1 + src ∧ 1 + src ≤ 7; omega) f2.1 g3 f4 g5 f7.1 (by unfold contentF; rw [if_pos (by simp; omega)]; simp [hu2]) f2.2 f7.2 (by show (0 : Nat) ≤ _; omega)
 refine Tr.reg0 (co rfl (ki rfl rfl rfl rfl) (cm rfl (Ch.nil (Fin.go ?_))))
 refine Tr.cn rfl ?_ ?_ <;> intro h2 q2
 have f8 := s7.val_in (n := 4) (by omega)
 obtain ⟨u, hu⟩ := at_ (l := useL) (k := (s7.val 4).toNat) (by have : useL.length = 4 := rfl; omega)
 have hu2 := useL_ok u (List.mem_of_getElem? hu)
 refine Tr.regT (tp rfl (ok_build (rows := [(0, [_])]) rfl bl24 zo24 ⟨⟨rfl, (VL.le (vl rfl) (one_cellsP _))⟩, trivial⟩ rfl) (tp rfl (ok_build (rows := [(0, [_])]) rfl bl24 zo24 ⟨⟨rfl, (VL.le (vl rfl) (one_cellsP _))⟩, trivial⟩ rfl) (tp rfl (ok_build (rows := [(0, [_]), (1, [_])]) rfl bl24 zo24 ⟨⟨rfl, (VL.le (vl rfl) (one_cellsP _))⟩, ⟨⟨rfl, (VL.le (vl rfl) (one_cellsP _))⟩, trivial⟩⟩ rfl) (tp rfl (ok_build (rows := [(0, [_]), (1, [_])]) rfl bl24 zo24 ⟨⟨rfl, (VL.le (vl rfl) (one_cellsP _))⟩, ⟨⟨rfl, (VL.le (vl rfl) (one_cellsP _))⟩, trivial⟩⟩ rfl) (tp rfl (ok_buildSlice (xs := [.tmp 30, .tmp 31, .tmp 32, .tmp 33]) (rows := [_, _, _, _]) rfl rfl Tryz.underlying79 sz24 z24 rfl (by decide) ⟨⟨(by exact rfl), (VL.le (vl rfl) (agg_cellsP _))⟩, ⟨⟨(by exact rfl), (VL.le (vl rfl) (agg_cellsP _))⟩, ⟨⟨(by exact rfl), (VL.le (vl rfl) (agg_cellsP _))⟩, ⟨⟨(by exact rfl), (VL.le (vl rfl) (agg_cellsP _))⟩, trivial⟩⟩⟩⟩ (by decide)) ?_)))))
 refine tm rfl (TO.efc 2 rfl rfl (by decide) (ef_callc rfl rfl (by decide) rfl (w_DNext (by omega) (by omega)) ⟨ke rfl, ke rfl, trivial⟩) (tp rfl (ok_indexAddr rfl Tryz.underlying79 sz24 ⟨_, rfl, full_le _ _⟩ (vl rfl) (by omega) (row_atI (l := useL) (f := fun p : Int × Int => [int p.1, int p.2]) hu)) (tp rfl (ok_loadA rfl agg24 sz24 (vl rfl) rfl rfl) (tp rfl (okp_fieldAddr rfl fo26_7 (vl rfl)) (TO.ef0 0 rfl rfl (ef_store rfl rfl (vl rfl) (VL.le (vl rfl) (agg_cellsP _)) sz24 rfl (by exact Nat.le_of_ble_eq_true rfl) rfl) (TO.nil (Fin.block (Fin.go (wk2 2 3 rfl (Tr.seq (Tr.reC 0 [int (1 + src), str host, int mach, int day, int conf, int (1 + kd), str subj, int u.1, int u.2, int 0, str []] rfl ⟨Pr.le_refl _, Pr.le_refl _, Pr.le_refl _, Pr.le_refl _, Pr.le_refl _, Pr.le_refl _, Pr.le_refl _, Pr.le_refl _, Pr.le_refl _, Pr.le_refl _, Pr.le_refl _, trivial⟩ (Tr.regT (TO.rd 0 rfl rfl rfl (by decide) (rd_loadA rfl agg26 sz26 (vl rfl) rfl rfl) ?_)))))))))))))
 refine TO.store_all 1 rfl rfl rfl (vl rfl) (VL.le (vl rfl) (agg_cellsP _)) rfl sz26 rfl rfl (TO.nil (Fin.go (Tr.drop 0 (Tr.ret (Fin.closeD 1 _ rfl rfl (Fin.retY1 [_] rfl (RVal.cell 0 rfl rfl agg26 sz26 rfl (Pr.le_refl _)) ?_ (fun _ _ _ _ => rfl)))))))
 · refine ex_in (Fnd.mk _ _ _ _ _ _ _ _ _ _ _) (fact_in ?_ (Pr.le_refl _)); exact good_mk (by show 1 ≤ 1 + src ∧ 1 + src ≤ 7; omega) f2.1 g3 f4 g5 f7.1 (by unfold contentF; rw [if_pos (by simp; omega)]; simp [hu2]) f2.2 f7.2 (by show (0 : Nat) ≤ _; omega)
 refine Tr.seq (Tr.reg0 (co rfl (ki rfl rfl rfl rfl) (cm rfl (Ch.nil (Fin.go ?_)))))
 refine Tr.cn rfl ?_ ?_ <;> intro h3 q3
 have f8 := s7.val_in (n := 5) (by omega)
 refine Tr.regT (tm rfl (TO.efc 2 rfl rfl (by decide) (ef_callc rfl rfl (by decide) rfl (w_DNext (by omega) (by omega)) ⟨ke rfl, ke rfl, trivial⟩) ?_))
 refine tp rfl (ok_add rfl (vl rfl) (vl rfl) ?hin) ?_; case hin => unfold InI; omega
 refine tp rfl (okp_fieldAddr rfl fo26_8 (vl rfl)) (TO.ef0 0 rfl rfl (ef_store rfl rfl (vl rfl) (VL.le (vl rfl) (one_cellsP _)) sz3 rfl (by exact Nat.le_of_ble_eq_true rfl) rfl) (TO.nil (Fin.block (Fin.go (wk2 2 3 rfl (Tr.seq (Tr.reC 0 [int (1 + src), str host, int mach, int day, int conf, int (1 + kd), str subj, int 0, int 0, int (1 + s7.val 5), str []] rfl ⟨Pr.le_refl _, Pr.le_refl _, Pr.le_refl _, Pr.le_refl _, Pr.le_refl _, Pr.le_refl _, Pr.le_refl _, Pr.le_refl _, Pr.le_refl _, Pr.le_refl _, Pr.le_refl _, trivial⟩ ?_)))))))
 generalize s7.val 5 = nv at f8 ⊢
 refine Tr.regT (TO.rd 0 rfl rfl rfl (by decide) (rd_loadA rfl agg26 sz26 (vl rfl) rfl rfl) (TO.store_all 1 rfl rfl rfl (vl rfl) (VL.le (vl rfl) (agg_cellsP _)) rfl sz26 rfl rfl (TO.nil (Fin.go (Tr.drop 0 (Tr.ret (Fin.closeD 1 _ rfl rfl (Fin.retY1 [_] rfl (RVal.cell 0 rfl rfl agg26 sz26 rfl (Pr.le_refl _)) ?_ (fun _ _ _ _ => rfl)))))))))
 · refine ex_in (Fnd.mk _ _ _ _ _ _ _ _ _ _ _) (fact_in ?_ (Pr.le_refl _)); exact good_mk (by show 1 ≤ 1 + src ∧ 1 + src ≤ 7; omega) f2.1 g3 f4 g5 f7.1 (by unfold contentF bareF; rw [if_neg (by simp; omega), if_pos (by simp; omega)]; simp; omega) f2.2 f7.2 (by show (0 : Nat) ≤ _; omega)
 refine Tr.seq (Tr.reg0 (co rfl (ki rfl rfl rfl rfl) (cm rfl (Ch.nil (Fin.go ?_)))))
 refine Tr.cn rfl ?_ ?_ <;> intro h4 q4
 have f8 := s7.of_mem (l := [1024, 2048]) (by simp)
 have f9 := s7.adv.val_in (n := 3) (by omega)
 refine Tr.regT (tm rfl (tp rfl (ok_buildSlice (xs := [.const (.int .i64 (1024)), .const (.int .i64 (2048))]) (rows := [[_], [_]]) rfl rfl Tryz.underlying22 sz3 z3 rfl (by decide) ⟨⟨(by exact rfl), (VL.le (vl rfl) (one_cellsP _))⟩, ⟨⟨(by exact rfl), (VL.le (vl rfl) (one_cellsP _))⟩, trivial⟩⟩ (by decide)) ?_))
 refine TO.efc 2 rfl rfl (by decide) (ef_callc rfl rfl (by decide) rfl (w_DOf (l := [1024, 2048]) (by simp) (by simp)) ⟨ke rfl, ⟨_, rfl, full_le _ _⟩, trivial⟩) ?_
 refine tp rfl (ok_build (rows := [(0, [_]), (1, [_])]) rfl bl24 zo24 ⟨⟨rfl, (VL.le (vl rfl) (one_cellsP _))⟩, ⟨⟨rfl, (VL.le (vl rfl) (one_cellsP _))⟩, trivial⟩⟩ rfl) (tm rfl (TO.efc 2 rfl rfl (by decide) (ef_callc rfl rfl (by decide) rfl (w_DNext (by omega) (by omega)) ⟨ke rfl, ke rfl, trivial⟩) ?_))
 refine tp rfl (ok_add rfl (vl rfl) (vl rfl) ?hin) ?_; case hin => unfold InI; omega
 refine tp rfl (okp_fieldAddr rfl fo26_7 (vl rfl)) (TO.ef0 0 rfl rfl (ef_store rfl rfl (vl rfl) (VL.le (vl rfl) (agg_cellsP _)) sz24 rfl (by exact Nat.le_of_ble_eq_true rfl) rfl) (tp rfl (okp_fieldAddr rfl fo26_8 (vl rfl)) (TO.ef0 0 rfl rfl (ef_store rfl rfl (vl rfl) (VL.le (vl rfl) (one_cellsP _)) sz3 rfl (by exact Nat.le_of_ble_eq_true rfl) rfl) (TO.nil (Fin.block (Fin.go (wk2 2 3 rfl (Tr.seq (Tr.reC 0 [int (1 + src), str host, int mach, int day, int conf, int (1 + kd), str subj, int 5, int (s7.of [1024, 2048]), int (100 + s7.adv.val 3), str []] rfl ⟨Pr.le_refl _, Pr.le_refl _, Pr.le_refl _, Pr.le_refl _, Pr.le_refl _, Pr.le_refl _, Pr.le_refl _, Pr.le_refl _, Pr.le_refl _, Pr.le_refl _, Pr.le_refl _, trivial⟩ ?_)))))))))
 generalize s7.of [1024, 2048] = bt at f8 ⊢
 generalize s7.adv.val 3 = nv at f9 ⊢
 refine Tr.regT (TO.rd 0 rfl rfl rfl (by decide) (rd_loadA rfl agg26 sz26 (vl rfl) rfl rfl) (TO.store_all 1 rfl rfl rfl (vl rfl) (VL.le (vl rfl) (agg_cellsP _)) rfl sz26 rfl rfl (TO.nil (Fin.go (Tr.drop 0 (Tr.ret (Fin.closeD 1 _ rfl rfl (Fin.retY1 [_] rfl (RVal.cell 0 rfl rfl agg26 sz26 rfl (Pr.le_refl _)) ?_ (fun _ _ _ _ => rfl)))))))))
 · refine ex_in (Fnd.mk _ _ _ _ _ _ _ _ _ _ _) (fact_in ?_ (Pr.le_refl _)); exact good_mk (by show 1 ≤ 1 + src ∧ 1 + src ≤ 7; omega) f2.1 g3 f4 g5 f7.1 (by unfold contentF; rw [if_neg (by simp; omega), if_neg (by simp; omega), if_pos (by simp; omega)]; simp at f8; rcases f8 with h | h <;> rw [h] <;> simp [show strength 5 1024 > 0 by decide, show strength 5 2048 > 0 by decide, show (catOf 5).kind = 2 by rfl] <;> omega) f2.2 f7.2 (by show (0 : Nat) ≤ _; omega)
 refine Tr.seq (Tr.seq (Tr.reg0 (co rfl (ki rfl rfl rfl rfl) (cm rfl (Ch.nil (Fin.go (wk5 0 2 3 26 57 rfl ?_)))))))
 refine Tr.cn rfl ?_ ?_ <;> intro h5 q5
 refine Tr.skip (Fin.go (Tr.cond rfl (fun _ => ?_) (fun h => nomatch h5.symm.trans h)))
 have f8 := s7.val_in (n := 4) (by omega)
 refine Tr.regT (tm rfl (TO.efc 2 rfl rfl (by decide) (ef_callc rfl rfl (by decide) rfl (w_DNext (by omega) (by omega)) ⟨ke rfl, ke rfl, trivial⟩) ?_))
 refine tp rfl (ok_add rfl (vl rfl) (vl rfl) ?hin) ?_; case hin => unfold InI; omega
 refine tp rfl (okp_fieldAddr rfl fo26_8 (vl rfl)) (TO.ef0 0 rfl rfl (ef_store rfl rfl (vl rfl) (VL.le (vl rfl) (one_cellsP _)) sz3 rfl (by exact Nat.le_of_ble_eq_true rfl) rfl) (TO.nil (Fin.block (Fin.go (Tr.seq (Tr.reC 0 [int (1 + src), str host, int mach, int day, int conf, int (1 + kd), str subj, int 0, int 0, int (1 + s7.val 4), str []] rfl ⟨Pr.le_refl _, Pr.le_refl _, Pr.le_refl _, Pr.le_refl _, Pr.le_refl _, Pr.le_refl _, Pr.le_refl _, Pr.le_refl _, Pr.le_refl _, Pr.le_refl _, Pr.le_refl _, trivial⟩ ?_))))))
 generalize s7.val 4 = nv at f8 ⊢
 refine Tr.regT (TO.rd 0 rfl rfl rfl (by decide) (rd_loadA rfl agg26 sz26 (vl rfl) rfl rfl) (TO.store_all 1 rfl rfl rfl (vl rfl) (VL.le (vl rfl) (agg_cellsP _)) rfl sz26 rfl rfl (TO.nil (Fin.go (Tr.drop 0 (Tr.ret (Fin.closeD 1 _ rfl rfl (Fin.retY1 [_] rfl (RVal.cell 0 rfl rfl agg26 sz26 rfl (Pr.le_refl _)) ?_ (fun _ _ _ _ => rfl)))))))))
 · refine ex_in (Fnd.mk _ _ _ _ _ _ _ _ _ _ _) (fact_in ?_ (Pr.le_refl _)); exact good_mk (by show 1 ≤ 1 + src ∧ 1 + src ≤ 7; omega) f2.1 g3 f4 g5 f7.1 (by unfold contentF bareF; rw [if_neg (by simp; omega), if_neg (by simp; omega), if_neg (by simp; omega), if_pos (by simp; omega)]; simp; omega) f2.2 f7.2 (by show (0 : Nat) ≤ _; omega)
 refine Tr.reg0 (co rfl (ki rfl rfl rfl rfl) (cm rfl (Ch.nil (Fin.go ?_))))
 refine Tr.cn rfl ?_ ?_ <;> intro h6 q6
 have f8 := s7.val_in (n := 4) (by omega)
 refine Tr.regT (tm rfl (TO.efc 2 rfl rfl (by decide) (ef_callc rfl rfl (by decide) rfl (w_DNext (by omega) (by omega)) ⟨ke rfl, ke rfl, trivial⟩) ?_))
 refine tp rfl (ok_add rfl (vl rfl) (vl rfl) ?hin) ?_; case hin => unfold InI; omega
 refine tp rfl (okp_fieldAddr rfl fo26_8 (vl rfl)) (TO.ef0 0 rfl rfl (ef_store rfl rfl (vl rfl) (VL.le (vl rfl) (one_cellsP _)) sz3 rfl (by exact Nat.le_of_ble_eq_true rfl) rfl) (TO.nil (Fin.block (Fin.go (Tr.seq (Tr.reC 0 [int (1 + src), str host, int mach, int day, int conf, int (1 + kd), str subj, int 0, int 0, int (1 + s7.val 4), str []] rfl ⟨Pr.le_refl _, Pr.le_refl _, Pr.le_refl _, Pr.le_refl _, Pr.le_refl _, Pr.le_refl _, Pr.le_refl _, Pr.le_refl _, Pr.le_refl _, Pr.le_refl _, Pr.le_refl _, trivial⟩ ?_))))))
 generalize s7.val 4 = nv at f8 ⊢
 refine Tr.regT (TO.rd 0 rfl rfl rfl (by decide) (rd_loadA rfl agg26 sz26 (vl rfl) rfl rfl) (TO.store_all 1 rfl rfl rfl (vl rfl) (VL.le (vl rfl) (agg_cellsP _)) rfl sz26 rfl rfl (TO.nil (Fin.go (Tr.drop 0 (Tr.ret (Fin.closeD 1 _ rfl rfl (Fin.retY1 [_] rfl (RVal.cell 0 rfl rfl agg26 sz26 rfl (Pr.le_refl _)) ?_ (fun _ _ _ _ => rfl)))))))))
 · refine ex_in (Fnd.mk _ _ _ _ _ _ _ _ _ _ _) (fact_in ?_ (Pr.le_refl _)); exact good_mk (by show 1 ≤ 1 + src ∧ 1 + src ≤ 7; omega) f2.1 g3 f4 g5 f7.1 (by unfold contentF bareF; rw [if_neg (by simp; omega), if_neg (by simp; omega), if_neg (by simp; omega), if_pos (by simp; omega)]; simp; omega) f2.2 f7.2 (by show (0 : Nat) ≤ _; omega)
 refine Tr.seq (Tr.reg0 (co rfl (ki rfl rfl rfl rfl) (cm rfl (Ch.nil (Fin.go ?_)))))
 refine Tr.cn rfl ?_ ?_ <;> intro h7 q7
 have f8 := s7.val_in (n := 3) (by omega)
 refine Tr.regT (tm rfl (TO.efc 2 rfl rfl (by decide) (ef_callc rfl rfl (by decide) rfl (w_DNext (by omega) (by omega)) ⟨ke rfl, ke rfl, trivial⟩) (tp rfl (okp_fieldAddr rfl fo26_8 (vl rfl)) (TO.ef0 0 rfl rfl (ef_store rfl rfl (vl rfl) (VL.le (vl rfl) (one_cellsP _)) sz3 rfl (by exact Nat.le_of_ble_eq_true rfl) rfl) (TO.nil (Fin.block (Fin.go (Tr.seq (Tr.reC 0 [int (1 + src), str host, int mach, int day, int conf, int (1 + kd), str subj, int 0, int 0, int (s7.val 3), str []] rfl ⟨Pr.le_refl _, Pr.le_refl _, Pr.le_refl _, Pr.le_refl _, Pr.le_refl _, Pr.le_refl _, Pr.le_refl _, Pr.le_refl _, Pr.le_refl _, Pr.le_refl _, Pr.le_refl _, trivial⟩ ?_)))))))))
 generalize s7.val 3 = nv at f8 ⊢
 refine Tr.regT (TO.rd 0 rfl rfl rfl (by decide) (rd_loadA rfl agg26 sz26 (vl rfl) rfl rfl) (TO.store_all 1 rfl rfl rfl (vl rfl) (VL.le (vl rfl) (agg_cellsP _)) rfl sz26 rfl rfl (TO.nil (Fin.go (Tr.drop 0 (Tr.ret (Fin.closeD 1 _ rfl rfl (Fin.retY1 [_] rfl (RVal.cell 0 rfl rfl agg26 sz26 rfl (Pr.le_refl _)) ?_ (fun _ _ _ _ => rfl)))))))))
 · refine ex_in (Fnd.mk _ _ _ _ _ _ _ _ _ _ _) (fact_in ?_ (Pr.le_refl _)); exact good_mk (by show 1 ≤ 1 + src ∧ 1 + src ≤ 7; omega) f2.1 g3 f4 g5 f7.1 (by unfold contentF bareF; rw [if_neg (by simp; omega), if_neg (by simp; omega), if_neg (by simp; omega), if_neg (by simp; omega), if_pos (by simp; omega)]; simp; omega) f2.2 f7.2 (by show (0 : Nat) ≤ _; omega)
 refine Tr.seq ?_
 skip
 refine Tr.reg0 (co rfl (ki rfl rfl rfl rfl) (cm rfl (Ch.nil (Fin.go ?_))))
 refine Tr.cn rfl ?_ ?_ <;> intro h8 q8
 have f8 := named_ab (word_mem s7 (l := [[97], [98]]) (by simp))
 refine Tr.regT (tm rfl (tp rfl (ok_buildSlice (xs := [.const (.string ⟨[97].toArray⟩), .const (.string ⟨[98].toArray⟩)]) (rows := [[_], [_]]) rfl rfl Tryz.underlying53 sz9 z9 rfl (by decide) ⟨⟨(by exact rfl), (VL.le (vl rfl) (one_cellsP _))⟩, ⟨⟨(by exact rfl), (VL.le (vl rfl) (one_cellsP _))⟩, trivial⟩⟩ (by decide)) ?_))
 refine TO.efc 2 rfl rfl (by decide) (ef_callc rfl rfl (by decide) rfl (w_DWord (l := [[97], [98]]) (by simp) (by simp)) ⟨ke rfl, ⟨_, rfl, full_le _ _⟩, trivial⟩) ?_
 refine tp rfl (okp_fieldAddr rfl fo26_9 (vl rfl)) (TO.ef0 0 rfl rfl (ef_store rfl rfl (vl rfl) (VL.le (vl rfl) (one_cellsP _)) sz9 rfl (by exact Nat.le_of_ble_eq_true rfl) rfl) (TO.nil (Fin.block (Fin.go (wk2 2 3 rfl (Tr.seq (Tr.reC 0 [int (1 + src), str host, int mach, int day, int conf, int (1 + kd), str subj, int 0, int 0, int 0, str (word_ s7 [[97], [98]])] rfl ⟨Pr.le_refl _, Pr.le_refl _, Pr.le_refl _, Pr.le_refl _, Pr.le_refl _, Pr.le_refl _, Pr.le_refl _, Pr.le_refl _, Pr.le_refl _, Pr.le_refl _, Pr.le_refl _, trivial⟩ ?_)))))))
 generalize word_ s7 [[97], [98]] = tx at f8 ⊢
 refine Tr.regT (TO.rd 0 rfl rfl rfl (by decide) (rd_loadA rfl agg26 sz26 (vl rfl) rfl rfl) (TO.store_all 1 rfl rfl rfl (vl rfl) (VL.le (vl rfl) (agg_cellsP _)) rfl sz26 rfl rfl (TO.nil (Fin.go (Tr.drop 0 (Tr.ret (Fin.closeD 1 _ rfl rfl (Fin.retY1 [_] rfl (RVal.cell 0 rfl rfl agg26 sz26 rfl (Pr.le_refl _)) ?_ (fun _ _ _ _ => rfl)))))))))
 · refine ex_in (Fnd.mk _ _ _ _ _ _ _ _ _ _ _) (fact_in ?_ (Pr.le_refl _)); exact good_mk (by show 1 ≤ 1 + src ∧ 1 + src ≤ 7; omega) f2.1 g3 f4 g5 f7.1 (by unfold contentF; rw [if_neg (by simp; omega), if_neg (by simp; omega), if_neg (by simp; omega), if_neg (by simp; omega), if_neg (by simp; omega), if_pos (by simp; omega)]; simp [f8.1]) f2.2 f7.2 f8.2
 refine Tr.skip (Fin.block (Fin.go (Tr.seq (Tr.reC 0 [int (1 + src), str host, int mach, int day, int conf, int (1 + kd), str subj, int 0, int 0, int 0, str []] rfl ⟨Pr.le_refl _, Pr.le_refl _, Pr.le_refl _, Pr.le_refl _, Pr.le_refl _, Pr.le_refl _, Pr.le_refl _, Pr.le_refl _, Pr.le_refl _, Pr.le_refl _, Pr.le_refl _, trivial⟩ (Tr.regT (TO.rd 0 rfl rfl rfl (by decide) (rd_loadA rfl agg26 sz26 (vl rfl) rfl rfl) (TO.store_all 1 rfl rfl rfl (vl rfl) (VL.le (vl rfl) (agg_cellsP _)) rfl sz26 rfl rfl (TO.nil (Fin.go (Tr.drop 0 (Tr.ret (Fin.closeD 1 _ rfl rfl (Fin.retY1 [_] rfl (RVal.cell 0 rfl rfl agg26 sz26 rfl (Pr.le_refl _)) ?_ (fun _ _ _ _ => rfl))))))))))))))
 · exfalso; omega
end Go.Proofs.YtgdlhajfajddiaaGreat
namespace Cp
open Go Go.RowKit Go.Great

abbrev unit_ : Pr := is (.tuple #[])
section
variable {P : Program} {n : Nat} {E : Env} {M0 : Av} {w0 : World} {S : Nat → Prop} {rs : List Res} {o : Oper} {g : Func} {M1 : Av} {w1 : World}
theorem results0 {g : Func} {a : Act} {w : World} (hr : g.results = #[]) : (results g a.tmps).run P w = .ok (.tuple #[]) w := by
  rw [results_rv, hr]; simp [Sem.run_bind]
theorem Fin.ret0 (hr : g.results = #[]) : Fin n E (Hp M0 w0 noS rs) (bodyPost P g (Back M0 w0 unit_)) .normal := by
  rintro a w ⟨M, _, hd, he, hi⟩
  obtain ⟨h1, h2⟩ := OutW.bse M0 w0 M w hi
  exact ⟨hd, _, results0 hr, _, rfl, rfl, h2⟩
theorem Fin.ret0r (hr : g.results = #[]) : Fin n E (Hp M0 w0 noS rs) (bodyPost P g (Back M0 w0 unit_)) .ret := by
  rintro a w ⟨M, _, hd, he, hi⟩
  obtain ⟨h1, h2⟩ := OutW.bse M0 w0 M w hi
  exact ⟨hd, _, results0 hr, _, rfl, rfl, h2⟩
theorem Fin.retM0 {r : Res} (hr : g.results = #[]) : Fin n E (Hp M0 w0 S (r :: extRes M1 w1 :: rs)) (bodyPost P g (BackM M0 w0 S rs M1 w1 unit_ (fun _ => r))) .normal := by
  rintro a w ⟨M, _, hd, he, hi⟩
  obtain ⟨h1, h2⟩ := outM hi
  exact ⟨hd, _, results0 hr, _, M, rfl, rfl, h1, h2⟩

/-- The operands, where one slice may be of ours. -/
def ValsO (E : Env) (v0 : Value) (q0 : Pr) : List Operand → List Pr → Prop
  | [], [] => True
  | x :: xs, p :: ps => (VL E x p ∨ (VL E x (is v0) ∧ Pr.le (andIs v0 q0) p)) ∧ ValsO E v0 q0 xs ps
  | _, _ => False
theorem ValsO.ev {M M' : Av} {w : World} {a : Act} {v0 : Value} {q0 : Pr} (he : EnvFor M w E o a) (hx : Ext M w M' w) (h0 : q0.h M' w v0) : ∀ {xs : List Operand} {ps : List Pr}, (∀ x ∈ xs, x ∈ o.op.operands.toList) → ValsO E v0 q0 xs ps → HL M' w ps (xs.map a.eval)
  | [], [], _, _ => trivial
  | [], _ :: _, _, h => h.elim
  | _ :: _, [], _, h => h.elim
  | x :: xs, p :: ps, hm, h => by
    refine ⟨?_, ValsO.ev he hx h0 (fun y hy => hm y (List.mem_cons_of_mem _ hy)) h.2⟩
    rcases h.1 with h1 | ⟨h1, h2⟩
    · exact p.st _ _ _ _ _ hx (h1.ev he (hm x (by simp)))
    · have h3 : a.eval x = v0 := h1.ev he (hm x (by simp))
      exact h2 _ _ _ ⟨h3, by rw [h3]; exact h0⟩
/-- Memory is not read by this. -/
class Free (p : Pr) : Prop where
  free : ∀ M M' w v, p.h M w v → p.h M' w v
instance free_is (u : Value) : Free (is u) := ⟨fun _ _ _ _ h => h⟩
instance free_lens (m : Nat) : Free (lens m) := ⟨fun _ _ _ _ h => h⟩
end
end Cp
namespace Cp
open Go Go.RowKit Go.Great

/-- A map's entries, in the order in which they came. -/
def mkE (es : List (Value × Value)) : Array MapEntry := (es.zipIdx.map fun p => ({ key := p.1.1, val := p.1.2, born := p.2 } : MapEntry)).toArray
theorem mkE_at (es : List (Value × Value)) (i : Nat) : (mkE es)[i]? = (es[i]?).map fun p => { key := p.1, val := p.2, born := i } := by
  simp [mkE, List.getElem?_zipIdx]
  cases es[i]? <;> simp
theorem mkE_push (es : List (Value × Value)) (k v : Value) : (mkE es).push { key := k, val := v, born := es.length } = mkE (es ++ [(k, v)]) := by
  apply Array.toList_inj.1
  simp [mkE, List.zipIdx_append]
theorem mkE_set {es : List (Value × Value)} {i : Nat} (h : i < es.length) (k v : Value) : ((mkE es).modify i fun e => { e with key := k, val := v }) = mkE (es.set i (k, v)) := by
  apply Array.ext_getElem?
  intro j
  rw [Array.getElem?_modify, mkE_at, mkE_at, List.getElem?_set]
  by_cases hj : i = j
  · subst hj
    simp [h]
  · simp [hj]

/-- What the program knows of a map's type: how its keys are compared. -/
structure MapT (P : Program) (T kt et : TypeId) {κ : Type} [DecidableEq κ] (enc : κ → Value) : Prop where
  und : P.underlying T = some (.map kt et)
  zero : ∀ w, (zeroValue et).run P w = .ok (.int .i64 0) w
  eq : ∀ a b w, (Op.equal kt (enc a) (enc b)).run P w = .ok (decide (a = b)) w
  chk : ∀ e a w, (Instr.checkKey e 10000 kt (enc a)).run P w = .ok () w
  und2 : ∃ d, P.underlying kt = some d ∧ ((∀ a b, Instr.sameNow d (enc a) (enc b) = none) ∨ ∀ a b, Instr.sameNow d (enc a) (enc b) = some (decide (a = b)))
  bits : ∀ a, Instr.sameBits 10000 (enc a) (enc a) = true

section
variable {P : Program} {n : Nat} {E : Env} {M0 : Av} {w0 : World} {S : Nat → Prop} {rs : List Res} {o : Oper} {κ : Type} [DecidableEq κ] {enc : κ → Value}

abbrev encE (enc : κ → Value) (es : List (κ × Int)) : List (Value × Value) := es.map fun p => (enc p.1, .int .i64 p.2)
def mapR (enc : κ → Value) (b : Nat) (es : List (κ × Int)) : Res where
  blk := some b
  new := true
  h M w := (∀ o, M b o) ∧ w.heap[b]? = some (.map (mkE (encE enc es)) es.length)
  st M w M' w' he hk h := by
    obtain ⟨h1, h2⟩ := hk b rfl
    exact ⟨fun o => h2 o (h.1 o), h1.trans h.2⟩
/-- What a map holds for a key. -/
def look (es : List (κ × Int)) (k : κ) : Option Int := (es.find? fun p => decide (k = p.1)).map (·.2)
def updM (es : List (κ × Int)) (k : κ) (v : Int) : List (κ × Int) := match es.findIdx? fun p => decide (k = p.1) with | some i => es.set i (k, v) | none => es ++ [(k, v)]

theorem find_asking {T kt et : TypeId} (hT : MapT P T kt et enc) (k : κ) (w : World) : ∀ (es : List (κ × Int)) (i c : Nat),
    (Instr.findAsking kt (enc k) ((es.zipIdx c).map fun p => ({ key := enc p.1.1, val := .int .i64 p.1.2, born := p.2 } : MapEntry)) i).run P w = .ok ((es.findIdx? fun p => decide (k = p.1)).bind fun j => (es[j]?).map fun p => (i + j, .int .i64 p.2)) w
  | [], i, c => by simp [Instr.findAsking]
  | p :: es, i, c => by
    rw [List.zipIdx_cons, List.map_cons, Instr.findAsking, Sem.run_bind, hT.eq, Result.andThen_ok]
    by_cases h : k = p.1
    · simp [h, List.findIdx?_cons]
    · rw [if_neg (by simpa using h), find_asking hT k w es (i + 1) (c + 1), List.findIdx?_cons]
      simp only [h, decide_false, Bool.false_eq_true, if_false]
      congr 1
      cases hf : es.findIdx? fun p => decide (k = p.1) with
      | none => simp
      | some j => simp [Nat.add_assoc, Nat.add_comm 1 j]
theorem find_now {d : TypeDesc} (hn : ∀ a b : κ, Instr.sameNow d (enc a) (enc b) = some (decide (a = b))) (k : κ) : ∀ (es : List (κ × Int)) (i c : Nat),
    Instr.findNow d (enc k) ((es.zipIdx c).map fun p => ({ key := enc p.1.1, val := .int .i64 p.1.2, born := p.2 } : MapEntry)) i = some ((es.findIdx? fun p => decide (k = p.1)).bind fun j => (es[j]?).map fun p => (i + j, .int .i64 p.2))
  | [], i, c => by simp [Instr.findNow]
  | p :: es, i, c => by
    rw [List.zipIdx_cons, List.map_cons, Instr.findNow, hn]
    by_cases h : k = p.1
    · simp [h, List.findIdx?_cons]
    · simp only [h, decide_false]
      rw [find_now hn k es (i + 1) (c + 1), List.findIdx?_cons]
      simp only [h, decide_false, Bool.false_eq_true, if_false]
      congr 1
      cases hf : es.findIdx? fun p => decide (k = p.1) with
      | none => simp
      | some j => simp [Nat.add_assoc, Nat.add_comm 1 j]
theorem find_key {T kt et : TypeId} (hT : MapT P T kt et enc) (k : κ) (w : World) (es : List (κ × Int)) :
    (Instr.findKey kt (enc k) (mkE (encE enc es)).toList).run P w = .ok ((es.findIdx? fun p => decide (k = p.1)).bind fun j => (es[j]?).map fun p => (j, .int .i64 p.2)) w := by
  obtain ⟨d, hd, hn⟩ := hT.und2
  have hl : (mkE (encE enc es)).toList = (es.zipIdx 0).map fun p => ({ key := enc p.1.1, val := .int .i64 p.1.2, born := p.2 } : MapEntry) := by
    simp [mkE, encE, List.zipIdx_map]
  rw [hl]
  unfold Instr.findKey
  rw [Sem.run_bind, run_underlying hd, Result.andThen_ok]
  rcases hn with hn | hn
  rotate_left
  · rw [find_now hn k es 0 0]; simp
  cases es with
  | nil => simp [Instr.findNow]
  | cons p es =>
    have h1 : Instr.findNow d (enc k) (((p :: es).zipIdx 0).map fun p => ({ key := enc p.1.1, val := .int .i64 p.1.2, born := p.2 } : MapEntry)) 0 = none := by
      rw [List.zipIdx_cons, List.map_cons, Instr.findNow, hn]
    rw [h1]
    have := find_asking hT k w (p :: es) 0 0
    simpa using this

theorem HpH.addR {M : Av} {w : World} {obj : Obj} {r : Res} (h : HpH M0 w0 S rs M w) (hb : r.blk = some w.heap.size) (hn : r.new = true) (hr : r.h (fun b o => M b o ∨ b = w.heap.size) (w.alloc obj)) :
    HpH M0 w0 S (r :: rs) (fun b o => M b o ∨ b = w.heap.size) (w.alloc obj) ∧ Ext M w (fun b o => M b o ∨ b = w.heap.size) (w.alloc obj) := by
  have hbl : Below w.heap.size w (w.alloc obj) := (Below.refl _ _).alloc (Nat.le_refl _) _
  have hsz : (w.alloc obj).heap.size = w.heap.size + 1 := by simp
  have he : Ext M w (fun b o => M b o ∨ b = w.heap.size) (w.alloc obj) := by
    have h2 := Ext.below (M := M) hbl
    refine ⟨h2.size, fun a v hc hm => ⟨fun hx => ?_, (h2.keep a v hc hm).2⟩, fun b o ho hp hm => ⟨fun hx => ?_, (h2.obj b o ho hp hm).2⟩⟩
    · rcases hx with hx | hx
      · exact hm hx
      · have := cell_lt hc; omega
    · rcases hx with hx | hx
      · exact hm hx
      · subst hx; simp at ho
  have hI := (Hp M0 w0 S rs).st _ _ _ hbl h
  refine ⟨⟨hI.m0, fun b o hm => .inl (hI.m b o hm), hI.os, hI.tape, hI.output, hI.size, hI.block, fun b o hm => ?_, fun r' hr' => ?_, ?_⟩, he⟩
  · rcases hm with hm | hm
    · exact hI.bd b o hm
    · omega
  · rcases List.mem_cons.1 hr' with rfl | hr'
    · refine ⟨hr, fun b hbk => ?_⟩
      rw [hb] at hbk
      injection hbk with hbk
      subst hbk
      exact ⟨by omega, by rw [hn]; simpa using h.size⟩
    · obtain ⟨h3, h4⟩ := h.hold r' hr'
      exact ⟨r'.st _ _ _ _ he (fun b hbk => ⟨hbl.block b (h4 b hbk).1, fun _ x => .inl x⟩) h3, fun b hbk => ⟨by have := (h4 b hbk).1; omega, (h4 b hbk).2⟩⟩
  · refine List.Pairwise.cons (fun r' hr' b hbk hbk' => ?_) h.nd
    rw [hb] at hbk
    injection hbk with hbk
    have := ((h.hold r' hr').2 b hbk').1
    omega
def setB (w : World) (b : Nat) (o : Obj) : World := { w with heap := w.heap.setIfInBounds b o }
theorem setB_at {w : World} {b : Nat} {o : Obj} (h : b < w.heap.size) : (setB w b o).heap[b]? = some o := by
  show (w.heap.setIfInBounds b o)[b]? = _
  rw [Array.getElem?_setIfInBounds]; simp [h]
theorem setB_other {w : World} {b k : Nat} {o : Obj} (h : k ≠ b) : (setB w b o).heap[k]? = w.heap[k]? := by
  show (w.heap.setIfInBounds b o)[k]? = _
  rw [Array.getElem?_setIfInBounds, if_neg (fun e => h e.symm)]
theorem HpH.setR {M : Av} {w : World} {obj : Obj} {r r' : Res} {j b : Nat} (h : HpH M0 w0 S rs M w) (hj : rs[j]? = some r) (hb : r.blk = some b) (hb' : r'.blk = some b) (hn : r.new = true) (hn' : r'.new = true) (hM : ∀ o, M b o) (hr : r'.h M (setB w b obj)) :
    HpH M0 w0 S (rs.set j r') M (setB w b obj) ∧ Ext M w M (setB w b obj) := by
  have hlt := ((h.hold r (List.mem_of_getElem? hj)).2 b hb).1
  have hsz : (setB w b obj).heap.size = w.heap.size := by simp [setB]
  have he : Ext M w M (setB w b obj) := by
    refine ⟨by omega, fun a v hc hm => ⟨hm, ?_⟩, fun k o ho hp hm => ⟨hm, ?_⟩⟩
    · rw [World.cell?_of_block (w := w) (setB_other (fun e => hm (by rw [e]; exact hM _)))]; exact hc
    · rw [setB_other (fun e => hm (by rw [e]; exact hM _))]; exact ho
  refine ⟨h.replace hj he rfl rfl rfl (fun k _ hk => setB_other (fun e => hk (by rw [hb, e]))) hn (fun _ _ hm _ => hm) (fun k o hm => by rw [hsz]; exact h.bd k o hm) hr hn' (fun k hk => ?_), he⟩
  rw [hb'] at hk
  injection hk with hk
  subst hk
  exact ⟨by omega, .inl hb⟩

variable {Q : Exit → Act → World → Prop} {ops : Array Oper} {r : List Oper}
omit [DecidableEq κ] in
theorem TO.mkmap {d : Nat} {T : TypeId} (enc : κ → Value) (hg : o.guard = none) (hd : o.dst = some d) (hn : d < n) (ho : o.op = .makeMap T none)
    (k : ∀ b, TO P n ops r ((d, is (.map (some b))) :: E) (Hp M0 w0 S (mapR enc b [] :: rs)) Q) : TO P n ops (o :: r) E (Hp M0 w0 S rs) Q :=
  TO.eff hg fun K M w a hsz hdf he hI hK => by
    refine TO.val (v := .map (some w.heap.size)) (w' := w.alloc (.map #[] 0)) ?_ ?_
    · simp [execOp, ho, Instr.makeMap]
    · obtain ⟨h2, h3⟩ := HpH.addR (obj := .map #[] 0) (r := mapR enc w.heap.size []) hI rfl rfl ⟨fun _ => .inr rfl, by rw [heap_alloc_new]; rfl⟩
      refine hK _ _ _ _ (k w.heap.size) ⟨_, by rw [put_size]; exact hsz, by rw [put_defers]; exact hdf, ?_, h2⟩
      intro s p hp
      simp only [List.lookup] at hp
      by_cases hs : s = d
      · subst hs; simp at hp; subst hp; rw [hd, put_same (by rw [hsz]; exact hn)]; rfl
      · rw [show (s == d) = false by simpa using hs] at hp
        rw [hd, put_other hs]
        exact p.st _ _ _ _ _ h3 (he s p hp)
theorem find_at {β : Type} (p : β → Bool) : ∀ l : List β, (l.findIdx? p).bind (fun j => l[j]?) = l.find? p
  | [] => rfl
  | a :: l => by
    have ih := find_at p l
    rw [List.findIdx?_cons, List.find?_cons]
    cases h : p a with
    | true => simp
    | false =>
      simp only [Bool.false_eq_true, if_false]
      rw [← ih]
      cases l.findIdx? p <;> simp
theorem rd_lookup {T kt et : TypeId} {x y : Operand} {b j : Nat} {es : List (κ × Int)} (k : κ) {q : Pr} (hT : MapT P T kt et enc) (ho : o.op = .lookup T x y true) (hx : VL E x (is (.map (some b)))) (hy : VL E y q) (hk : ∀ M w v, q.h M w v → v = enc k) :
    OpRd P M0 w0 S j (SR.c (mapR enc b es)) o E (tup [int ((look es k).getD 0), bool (look es k).isSome]) := by
  intro M w a rs he hI hj
  have h1 : a.eval x = _ := hx.ev he (by simp [ho, Op.operands])
  have h2 : a.eval y = enc k := hk _ _ _ (hy.ev he (by simp [ho, Op.operands]))
  have hj' : rs[j]? = some (mapR enc b es) := hj
  obtain ⟨_, hh⟩ := (hI.hold _ (List.mem_of_getElem? hj')).1
  have hrun : (execOp a.eval o).run P w = .ok (.value (.tuple #[.int .i64 ((look es k).getD 0), .bool (look es k).isSome])) w := by
    have hf := find_key hT k w es
    have hg := find_at (fun p : κ × Int => decide (k = p.1)) es
    unfold look
    cases hfi : es.findIdx? fun p => decide (k = p.1) with
    | none =>
      rw [hfi] at hf hg
      rw [← hg]
      simp only [Option.bind_none] at hf
      simp [execOp, ho, h1, h2, Instr.lookup, run_underlying hT.und, MapKept.run_getObj_map hh, hT.chk, hf, hT.zero, Result.andThen]
    | some i =>
      rw [hfi] at hf hg
      rw [← hg]
      have hil : i < es.length := by rw [List.findIdx?_eq_some_iff_getElem] at hfi; exact hfi.1
      simp only [Option.bind_some, List.getElem?_eq_getElem hil, Option.map_some] at hf ⊢
      simp [execOp, ho, h1, h2, Instr.lookup, run_underlying hT.und, MapKept.run_getObj_map hh, hT.chk, hf, Result.andThen]
  rw [hrun]
  exact ⟨⟨_, rfl, rfl, rfl, trivial⟩, Below.refl _ _⟩

theorem updM_none {es : List (κ × Int)} {k : κ} {v : Int} (h : (es.findIdx? fun p => decide (k = p.1)) = none) : updM es k v = es ++ [(k, v)] := by unfold updM; rw [h]
theorem updM_some {es : List (κ × Int)} {k : κ} {v : Int} {i : Nat} (h : (es.findIdx? fun p => decide (k = p.1)) = some i) : updM es k v = es.set i (k, v) := by unfold updM; rw [h]
theorem ef_mapupd {T kt et : TypeId} {x y z : Operand} {b j : Nat} {es : List (κ × Int)} {v : Int} (k : κ) {q : Pr} (hT : MapT P T kt et enc) (hg : o.guard = none) (hd : o.dst = none) (ho : o.op = .mapUpdate T x y z) (hx : VL E x (is (.map (some b)))) (hy : VL E y q) (hk : ∀ M w v, q.h M w v → v = enc k) (hz : VL E z (int v)) :
    OpEf P M0 w0 S n j (SR.c (mapR enc b es)) (SR.c (mapR enc b (updM es k v))) o E any := by
  refine ⟨hg, fun M w a rs hsz he hI hj => ?_⟩
  have h1 : a.eval x = _ := hx.ev he (by simp [ho, Op.operands])
  have h2 : a.eval y = enc k := hk _ _ _ (hy.ev he (by simp [ho, Op.operands]))
  have h3 : a.eval z = _ := hz.ev he (by simp [ho, Op.operands])
  have hj' : rs[j]? = some (mapR enc b es) := hj
  obtain ⟨⟨hM, hh⟩, hbb⟩ := hI.hold _ (List.mem_of_getElem? hj')
  have hlt := (hbb b rfl).1
  have hf := find_key hT k w es
  have hrun : (execOp a.eval o).run P w = .ok .skip (setB w b (.map (mkE (encE enc (updM es k v))) (updM es k v).length)) := by
    cases hfi : es.findIdx? fun p => decide (k = p.1) with
    | none =>
      rw [hfi] at hf
      simp only [Option.bind_none] at hf
      rw [updM_none hfi]
      have hp : mkE (encE enc (es ++ [(k, v)])) = (mkE (encE enc es)).push { key := enc k, val := .int .i64 v, born := es.length } := by
        have := mkE_push (encE enc es) (enc k) (.int .i64 v)
        rw [List.length_map] at this
        rw [this]; simp [encE]
      rw [hp]
      simp [execOp, ho, h1, h2, h3, Instr.mapUpdate, run_underlying hT.und, MapKept.run_getObj_map hh, hT.chk, hf, MapKept.run_setObj_map _ hh, Result.andThen, setB]
    | some i =>
      have hil : i < es.length := by rw [List.findIdx?_eq_some_iff_getElem] at hfi; exact hfi.1
      have hke : (es[i]).1 = k := by
        rw [List.findIdx?_eq_some_iff_getElem] at hfi
        obtain ⟨_, h4, _⟩ := hfi
        simpa using (of_decide_eq_true h4).symm
      rw [hfi] at hf
      simp only [Option.bind_some, List.getElem?_eq_getElem hil, Option.map_some] at hf
      rw [updM_some hfi]
      have hp : mkE (encE enc (es.set i (k, v))) = (mkE (encE enc es)).modify i fun e => { e with key := enc k, val := .int .i64 v } := by
        rw [mkE_set (by simpa using hil)]; simp [encE]
      have hold : ((mkE (encE enc es))[i]?).map (·.key) = some (enc k) := by
        rw [mkE_at]; simp [encE, List.getElem?_eq_getElem hil, hke]
      rw [hp, List.length_set]
      simp [execOp, ho, h1, h2, h3, Instr.mapUpdate, run_underlying hT.und, MapKept.run_getObj_map hh, hT.chk, hf, hold, Instr.keyThatStays, hT.bits, MapKept.run_setObj_map _ hh, Result.andThen, setB]
  rw [hrun]
  obtain ⟨h5, h6⟩ := HpH.setR (obj := .map (mkE (encE enc (updM es k v))) (updM es k v).length) (r' := mapR enc b (updM es k v)) hI hj' rfl rfl rfl rfl hM ⟨hM, setB_at hlt⟩
  exact ⟨M, trivial, h6, h5⟩

def iterR (it b m : Nat) (seen : List Nat) : Res where
  blk := some it
  new := true
  h M w := (∀ o, M it o) ∧ w.heap[it]? = some (.mapIter (some b) m seen.toArray m)
  st M w M' w' he hk h := by
    obtain ⟨h1, h2⟩ := hk it rfl
    exact ⟨fun o => h2 o (h.1 o), h1.trans h.2⟩
theorem TO.range {d j b : Nat} {T kt et : TypeId} {x : Operand} {es : List (κ × Int)} (hT : MapT P T kt et enc) (hg : o.guard = none) (hd : o.dst = some d) (hn : d < n) (ho : o.op = .range T x) (hx : VL E x (is (.map (some b)))) (hj : rs[j]? = some (mapR enc b es))
    (k : ∀ it, TO P n ops r ((d, ptr it 0) :: E) (Hp M0 w0 S (iterR it b es.length [] :: rs)) Q) : TO P n ops (o :: r) E (Hp M0 w0 S rs) Q :=
  TO.eff hg fun K M w a hsz hdf he hI hK => by
    have h1 : a.eval x = _ := hx.ev (o := o) (looks_env he) (by simp [ho, Op.operands])
    obtain ⟨_, hh⟩ := (HpH.hold hI _ (List.mem_of_getElem? hj)).1
    refine TO.val (v := .pointer (some ⟨w.heap.size, 0, none⟩)) (w' := w.alloc (.mapIter (some b) es.length #[] es.length)) ?_ ?_
    · simp [execOp, ho, h1, run_range_map w T kt et b _ _ hT.und hh]
    · obtain ⟨h2, h3⟩ := HpH.addR (obj := .mapIter (some b) es.length #[] es.length) (r := iterR w.heap.size b es.length []) hI rfl rfl ⟨fun _ => .inr rfl, by rw [heap_alloc_new]⟩
      refine hK _ _ _ _ (k w.heap.size) ⟨_, by rw [put_size]; exact hsz, by rw [put_defers]; exact hdf, ?_, h2⟩
      intro s p hp
      simp only [List.lookup] at hp
      by_cases hs : s = d
      · subst hs; simp at hp; subst hp; rw [hd, put_same (by rw [hsz]; exact hn)]; rfl
      · rw [show (s == d) = false by simpa using hs] at hp
        rw [hd, put_other hs]
        exact p.st _ _ _ _ _ h3 (he s p hp)
theorem mem_left {es : List (Value × Value)} {seen : List Nat} {e : MapEntry} : e ∈ (leftOf (mkE es) seen.toArray).toList ↔ ∃ q p, es[q]? = some p ∧ q ∉ seen ∧ e = { key := p.1, val := p.2, born := q } := by
  unfold leftOf
  rw [Array.toList_filter, List.mem_filter]
  constructor
  · rintro ⟨h1, h2⟩
    obtain ⟨q, hq⟩ := List.mem_iff_getElem?.1 h1
    rw [Array.getElem?_toList, mkE_at] at hq
    cases hp : es[q]? with
    | none => rw [hp] at hq; cases hq
    | some p =>
      rw [hp] at hq
      simp only [Option.map_some, Option.some.injEq] at hq
      subst hq
      exact ⟨q, p, hp, by simpa using h2, rfl⟩
  · rintro ⟨q, p, hp, hq, rfl⟩
    exact ⟨List.mem_iff_getElem?.2 ⟨q, by rw [Array.getElem?_toList, mkE_at, hp]; rfl⟩, by simpa using hq⟩
theorem run_next_own {w : World} (ty : TypeId) {it b m : Nat} {seen : List Nat} {es : List (Value × Value)} (hm : es.length = m) (hit : w.heap[it]? = some (.mapIter (some b) m seen.toArray m)) (hb : w.heap[b]? = some (.map (mkE es) m)) :
    ((∀ q, q < m → q ∈ seen) ∧ (Instr.next (.pointer (some ⟨it, 0, none⟩)) false ty).run P w = .ok (.tuple #[.bool false]) w) ∨
    ∃ q p, es[q]? = some p ∧ q ∉ seen ∧ ∃ w1, (w1 = w ∨ w1 = w.drew) ∧ (Instr.next (.pointer (some ⟨it, 0, none⟩)) false ty).run P w = .ok (.tuple #[.bool true, p.1, p.2]) (setB w1 it (.mapIter (some b) m (seen ++ [q]).toArray m)) := by
  have hold : ∀ x ∈ (mkE es).toList, x.born < m := by
    intro x hx
    obtain ⟨q, hq⟩ := List.mem_iff_getElem?.1 hx
    rw [Array.getElem?_toList, mkE_at] at hq
    cases hp : es[q]? with
    | none => rw [hp] at hq; cases hq
    | some p =>
      rw [hp] at hq
      simp only [Option.map_some, Option.some.injEq] at hq
      subst hq
      show q < m
      rcases Nat.lt_or_ge q es.length with h | h
      · omega
      · rw [List.getElem?_eq_none h] at hp; cases hp
  simp only [Instr.next, getObj, Sem.run_bind, Sem.run, hit, hb, Result.andThen, next_test_false seen.toArray (mkE es) m m hold (Nat.le_refl _), Bool.false_eq_true, if_false]
  have hleft : (mkE es).filter (fun e => !seen.toArray.contains e.born) = leftOf (mkE es) seen.toArray := rfl
  rw [hleft]
  have hmem : ∀ x ∈ (leftOf (mkE es) seen.toArray).toList, x.born < m := fun x hx => by
    obtain ⟨q, p, h1, _, rfl⟩ := mem_left.1 hx
    rcases Nat.lt_or_ge q es.length with h | h
    · show q < m; omega
    · rw [List.getElem?_eq_none h] at h1; cases h1
  have hml : ∀ e, e ∈ (leftOf (mkE es) seen.toArray).toList ↔ ∃ q p, es[q]? = some p ∧ q ∉ seen ∧ e = { key := p.1, val := p.2, born := q } := fun e => mem_left
  generalize leftOf (mkE es) seen.toArray = L at hmem hml ⊢
  have e1 : L.filter (fun x => decide (x.born < m)) = L := Array.filter_eq_self.2 (fun x hx => by simpa using hmem x (by simpa using hx))
  have e2 : L.filter (fun x => decide (x.born ≥ m)) = #[] := by
    rw [Array.filter_eq_empty_iff]
    intro x hx
    have := hmem x (by simpa using hx)
    simp
    omega
  simp only [e1, e2, Array.append_empty]
  by_cases h0 : L.size = 0
  · left
    have hL : L = #[] := Array.eq_empty_of_size_eq_zero h0
    refine ⟨fun q hq => ?_, ?_⟩
    · rcases Classical.em (q ∈ seen) with h | h
      · exact h
      · have := (hml { key := (es[q]'(by omega)).1, val := (es[q]'(by omega)).2, born := q }).2 ⟨q, es[q]'(by omega), List.getElem?_eq_getElem (by omega), h, rfl⟩
        rw [hL] at this; simp at this
    · subst hL
      simp [choose, Sem.run, Question.forced]
  · right
    have hne : L.isEmpty = false := by simp [Array.isEmpty, h0]
    simp only [hne, Bool.false_eq_true, if_false, Array.empty_append, Array.size_map]
    have hch : ∃ (j : Nat) (w1 : World), j < L.size ∧ (w1 = w ∨ w1 = w.drew) ∧ (choose (Question.mapNext L.size)).run P w = .ok j w1 := by
      by_cases hf : L.size ≤ 1
      · exact ⟨0, w, by omega, .inl rfl, by simp [choose, Sem.run, Question.forced, hf]⟩
      · exact ⟨_, w.drew, Nat.mod_lt _ (by omega), .inr rfl, by
          simp only [choose, Sem.run, Question.forced, decide_eq_true_eq, hf, if_false, Question.cut]
          rfl⟩
    obtain ⟨j, w1, hj, hal, hrun⟩ := hch
    obtain ⟨q, p, hq1, hq2, hq3⟩ := (hml L[j]).1 (by simp)
    refine ⟨q, p, hq1, hq2, w1, hal, ?_⟩
    have hw1 : w1.heap = w.heap := by rcases hal with rfl | rfl <;> rfl
    have hset : ∀ (o' : Obj), (setObj it o').run P w1 = .ok () (setB w1 it o') := fun o' => by
      have hit1 : w1.heap[it]? = some (.mapIter (some b) m seen.toArray m) := by rw [hw1]; exact hit
      simp only [setObj, Sem.run, hit1]
      rfl
    simp only [hrun, Array.getElem?_map, Array.getElem?_eq_getElem hj, Option.map_some, Sem.run_bind, hset, Result.andThen]
    rw [hq3]
    simp

omit [DecidableEq κ] in
theorem TO.next {d i j it b : Nat} {x : Operand} {es : List (κ × Int)} {seen : List Nat} (hg : o.guard = none) (hd : o.dst = some d) (hn : d < n) (ho : o.op = .next x false) (hx : VL E x (ptr it 0)) (hi : rs[i]? = some (iterR it b es.length seen)) (hj : rs[j]? = some (mapR enc b es))
    (k1 : (∀ q, q < es.length → q ∈ seen) → TO P n ops r ((d, tup [bool false]) :: E) (Hp M0 w0 S rs) Q)
    (k2 : ∀ q p, es[q]? = some p → q ∉ seen → TO P n ops r ((d, tup [bool true, is (enc p.1), int p.2]) :: E) (Hp M0 w0 S (rs.set i (iterR it b es.length (seen ++ [q])))) Q) : TO P n ops (o :: r) E (Hp M0 w0 S rs) Q :=
  TO.eff hg fun K M w a hsz hdf he hI hK => by
    have h1 : a.eval x = .pointer (some ⟨it, 0, none⟩) := hx.ev (o := o) (looks_env he) (by simp [ho, Op.operands])
    obtain ⟨⟨hMi, hit⟩, hbi⟩ := HpH.hold hI _ (List.mem_of_getElem? hi)
    obtain ⟨_, hh⟩ := (HpH.hold hI _ (List.mem_of_getElem? hj)).1
    have hlt := (hbi it rfl).1
    rcases run_next_own (P := P) o.type (es := encE enc es) (by simp [encE]) hit hh with ⟨h2, h3⟩ | ⟨q, p, h2, h3, w1, h4, h5⟩
    · refine TO.val (v := .tuple #[.bool false]) (w' := w) ?_ ?_
      · simp [execOp, ho, h1, h3]
      · refine hK _ _ _ _ (k1 h2) ⟨M, by rw [put_size]; exact hsz, by rw [put_defers]; exact hdf, ?_, hI⟩
        intro s p hp
        simp only [List.lookup] at hp
        by_cases hs : s = d
        · subst hs; simp at hp; subst hp; rw [hd, put_same (by rw [hsz]; exact hn)]; exact ⟨_, rfl, rfl, trivial⟩
        · rw [show (s == d) = false by simpa using hs] at hp
          rw [hd, put_other hs]; exact he s p hp
    · have hes : ∃ p', es[q]? = some p' ∧ p = (enc p'.1, .int .i64 p'.2) := by
        simp only [encE, List.getElem?_map] at h2
        cases h : es[q]? with
        | none => rw [h] at h2; cases h2
        | some p' => rw [h] at h2; simp at h2; exact ⟨p', rfl, h2.symm⟩
      obtain ⟨p', hp', rfl⟩ := hes
      refine TO.val (v := .tuple #[.bool true, enc p'.1, .int .i64 p'.2]) (w' := setB w1 it (.mapIter (some b) es.length (seen ++ [q]).toArray es.length)) ?_ ?_
      · simp [execOp, ho, h1, h5]
      · have hbel : Below w.heap.size w w1 := by
          rcases h4 with rfl | rfl
          · exact Below.refl _ _
          · exact (Below.refl _ _).drew
        have hI1 := (Hp M0 w0 S rs).st _ _ _ hbel hI
        obtain ⟨h6, h7⟩ := HpH.setR (obj := .mapIter (some b) es.length (seen ++ [q]).toArray es.length) (r' := iterR it b es.length (seen ++ [q])) hI1 hi rfl rfl rfl rfl hMi ⟨hMi, setB_at (Nat.lt_of_lt_of_le hlt hbel.size)⟩
        refine hK _ _ _ _ (k2 q p' hp' h3) ⟨M, by rw [put_size]; exact hsz, by rw [put_defers]; exact hdf, ?_, h6⟩
        intro s p hp
        simp only [List.lookup] at hp
        by_cases hs : s = d
        · subst hs; simp at hp; subst hp; rw [hd, put_same (by rw [hsz]; exact hn)]; exact ⟨_, rfl, rfl, rfl, rfl, trivial⟩
        · rw [show (s == d) = false by simpa using hs] at hp
          rw [hd, put_other hs]
          exact p.st _ _ _ _ _ ((Ext.below hbel).trans h7) (he s p hp)
omit [DecidableEq κ] in
theorem TO.entry {d i j it b q : Nat} {x : Operand} {es : List (κ × Int)} {seen : List Nat} {p : κ × Int} (hg : o.guard = none) (hd : o.dst = some d) (hn : d < n) (ho : o.op = .entry x) (hx : VL E x (ptr it 0)) (hi : rs[i]? = some (iterR it b es.length (seen ++ [q]))) (hj : rs[j]? = some (mapR enc b es)) (hq : es[q]? = some p)
    (k : TO P n ops r ((d, tup [is (enc p.1), int p.2]) :: E) (Hp M0 w0 S rs) Q) : TO P n ops (o :: r) E (Hp M0 w0 S rs) Q :=
  TO.eff hg fun K M w a hsz hdf he hI hK => by
    have h1 : a.eval x = .pointer (some ⟨it, 0, none⟩) := hx.ev (o := o) (looks_env he) (by simp [ho, Op.operands])
    obtain ⟨⟨_, hit⟩, _⟩ := HpH.hold hI _ (List.mem_of_getElem? hi)
    obtain ⟨_, hh⟩ := (HpH.hold hI _ (List.mem_of_getElem? hj)).1
    have hat : (mkE (encE enc es))[q]? = some { key := enc p.1, val := .int .i64 p.2, born := q } := by rw [mkE_at]; simp [encE, hq]
    have hnd : ((mkE (encE enc es)).toList.map (·.born)).Nodup := by
      have : (mkE (encE enc es)).toList.map (·.born) = List.range (encE enc es).length := by
        apply List.ext_getElem?
        intro k
        rw [List.getElem?_map, Array.getElem?_toList, mkE_at]
        by_cases hk : k < (encE enc es).length
        · rw [List.getElem?_range hk, List.getElem?_eq_getElem hk]; rfl
        · rw [List.getElem?_eq_none (Nat.le_of_not_lt hk), List.getElem?_eq_none (by simp at hk ⊢; omega)]; rfl
      rw [this]; exact List.nodup_range
    have hfind : (mkE (encE enc es)).find? (fun e => e.born == q) = some { key := enc p.1, val := .int .i64 p.2, born := q } := by
      rw [← Array.find?_toList]
      exact find_born { key := enc p.1, val := .int .i64 p.2, born := q } _ hnd (List.mem_iff_getElem?.2 ⟨q, by rw [Array.getElem?_toList]; exact hat⟩)
    refine TO.val (v := .tuple #[enc p.1, .int .i64 p.2]) (w' := w) ?_ ?_
    · have : (Instr.entry (.pointer (some ⟨it, 0, none⟩))).run P w = .ok (.tuple #[enc p.1, .int .i64 p.2]) w := by
        have hb : (seen ++ [q]).toArray.back? = some q := by simp
        simp only [Instr.entry, getObj, Sem.run_bind, Sem.run, hit, hh, Result.andThen, hb, bne_self_eq_false, Bool.false_eq_true, if_false, hfind]
        rfl
      simp [execOp, ho, h1, this]
    · refine hK _ _ _ _ k ⟨M, by rw [put_size]; exact hsz, by rw [put_defers]; exact hdf, ?_, hI⟩
      intro s p hp
      simp only [List.lookup] at hp
      by_cases hs : s = d
      · subst hs; simp at hp; subst hp; rw [hd, put_same (by rw [hsz]; exact hn)]; exact ⟨_, rfl, rfl, rfl, trivial⟩
      · rw [show (s == d) = false by simpa using hs] at hp
        rw [hd, put_other hs]; exact he s p hp
end

section
variable {P : Program}
theorem chk_int {t : TypeId} {k : IntKind} {e : Bool} {d : Nat} {v : Value} (ht : P.underlying t = some (.int k)) (w : World) : (Instr.checkKey e (d + 1) t v).run P w = .ok () w := by
  simp [Instr.checkKey, run_underlying ht]
end
end Cp
namespace Cp
open Go Go.RowKit Go.Great

section
variable {P : Program} {n : Nat} {E : Env} {M0 : Av} {w0 : World} {S : Nat → Prop} {rs : List Res} {o : Oper}

theorem run_append_void (w : World) (A : Option Addr) (t ty e : TypeId) (i : TypeInfo) (z : Value) (ht : P.underlying t = some (.slice e)) (hi : P.info? e = some i) (hz : i.zero = some z)
    (a : Addr) (n c : Nat) (news : List Value) (hl : news.length = n * i.size) (hnews : ∀ j v, news[j]? = some v → w.cell? (a.add j) = some v)
    (h0 : 0 < n) (h63 : (n : Int) ≤ 9223372036854775807) (h48 : n * i.bytes ≤ 281474976710656) :
    (Builtin.append_ #[t, t] ty #[.slice A 0 0, .slice (some a) n c]).run P w =
      .ok (.slice (some ⟨w.heap.size, 0, none⟩) n (grownCap w n 0 e)) (w.drew.alloc (.cells (news.toArray ++ Builtin.zeroCells z.cells (grownCap w n 0 e - n)) e)) := by
  cases A with
  | none => exact run_append_nil (w := w) t ty e i z ht hi hz a n c news hl hnews h0 h63 h48
  | some b =>
    have := run_append_grow (w := w) t ty e i z ht hi hz b 0 0 [] (by simp) (by simp) a n c news hl hnews (by omega) (by simpa using h63) (by rw [Nat.zero_add, nextslicecap_zero h0]; exact h48)
    simpa using this

/-- append onto a slice of nothing. -/
theorem app_void {M : Av} {w : World} {t ty e : TypeId} {sz bytes : Nat} {zs : List Value} {rows : List (List Pr)} {u : Value} {j : Nat} (A : Option Addr) (ht : P.underlying t = some (.slice e)) (hz : sizeB P e = some sz) (hby : bytesB P e = some bytes) (hze : zeroB P e = some zs) (hzl : zs.length = sz) (hone : zs.all (·.oneCell') = true) (hsz : 0 < sz)
    (h : HpH M0 w0 S rs M w) (hj : rs[j]? = some noRes) (hu : (slice sz rows).h M w u) (hpos : 0 < rows.length) (hmax : rows.length ≤ maxLen) (hfit : rows.length * bytes ≤ 140737488355328) :
    ∃ v' w' M', (Builtin.append_ #[t, t] ty #[.slice A 0 0, u]).run P w = .ok v' w' ∧ (lens rows.length).h M' w' v' ∧ Ext M w M' w' ∧ HpH M0 w0 S (rs.set j (mutRes e sz rows v')) M' w' := by
  unfold sizeB at hz
  unfold bytesB at hby
  unfold zeroB at hze
  cases hi : P.info? e with
  | none => rw [hi] at hz; cases hz
  | some i =>
    rw [hi] at hz hby hze
    simp only [Option.map_some, Option.some.injEq, Option.map_eq_some_iff] at hz hby hze
    obtain ⟨z, hzz, hze⟩ := hze
    have hzc : z.cells.size = sz := by rw [← hzl, ← hze]; simp
    obtain ⟨A', c', rfl, hmc, hcm', hA', hrows'⟩ := hu
    have hu0 : (slice sz rows).h M w (.slice A' rows.length c') := ⟨A', c', rfl, hmc, hcm', hA', hrows'⟩
    obtain ⟨ad', rfl⟩ : ∃ ad', A' = some ad' := by
      obtain ⟨_, b, hb, _⟩ := hrows' 0 _ (List.getElem?_eq_getElem hpos)
      exact ⟨b, hb⟩
    obtain ⟨news, hfl, hcell⟩ := slice_flat hsz hu0
    have hrun := run_append_void (P := P) w A t ty e i z ht hi hzz ad' rows.length c' news (by rw [hz]; exact hfl.1) (fun k u hk => (hcell k u hk).1) hpos (by unfold maxLen at hmax; omega) (by rw [hby]; omega)
    generalize hcap : grownCap w rows.length 0 e = cap at hrun
    have hge : rows.length ≤ cap := by rw [← hcap]; exact grownCap_ge _ _ _ _
    have hle : cap ≤ maxLen := by rw [← hcap]; exact grownCap_le_maxLen _ _ _ _ hmax
    generalize hzc' : Builtin.zeroCells z.cells (cap - rows.length) = zc at hrun
    have hzs : zc.size = (cap - rows.length) * sz := by rw [← hzc', size_zeroCells, hzc]
    have hzo : ∀ c ∈ zc.toList, c.oneCell' = true := by rw [← hzc']; exact zeroCells_one hze hone
    have hb : Below w.heap.size w (w.drew.alloc (.cells (news.toArray ++ zc) e)) := ((Below.refl _ _).drew).alloc (Nat.le_refl _) _
    have h2 := Ext.below (M := M) hb
    have hext : Ext M w (fun b o => M b o ∨ b = w.heap.size) (w.drew.alloc (.cells (news.toArray ++ zc) e)) := by
      refine ⟨h2.size, fun a v hc hm => ⟨fun hx => ?_, (h2.keep a v hc hm).2⟩, fun b o ho hp hm => ⟨fun hx => ?_, (h2.obj b o ho hp hm).2⟩⟩
      · rcases hx with hx | hx
        · exact hm hx
        · have := cell_lt hc; omega
      · rcases hx with hx | hx
        · exact hm hx
        · subst hx; simp at ho
    have hs1 : (w.drew.alloc (.cells (news.toArray ++ zc) e)).heap.size = w.heap.size + 1 := by simp
    refine ⟨_, _, fun b o => M b o ∨ b = w.heap.size, hrun, ⟨_, _, rfl⟩, hext, ?_⟩
    refine h.replace hj hext hb.os hb.tape hb.output (fun k hk _ => hb.block k hk) rfl (fun b o hm _ => .inl hm) (fun b o hx => ?_) ?_ rfl (fun b hbk => ?_)
    · rcases hx with hx | hx
      · have := h.bd _ _ hx; omega
      · omega
    · refine ⟨w.heap.size, cap, zc.toList, rfl, hge, hle, by simpa using hzs, fun o => .inr rfl, news ++ zc.toList, ?_, ?_, ?_⟩
      · have hh : (w.drew.alloc (.cells (news.toArray ++ zc) e)).heap[w.heap.size]? = some (.cells (news.toArray ++ zc) e (0, 0)) := heap_alloc_new w.drew _
        rw [hh]; simp
      · exact ((hfl.st hext).hl hsz).app (hl_is _ _ _)
      · intro c hc
        rcases List.mem_append.1 hc with hc | hc
        · exact hfl.2.1 c hc
        · exact hzo c hc
    · have hbk' : some w.heap.size = some b := hbk
      injection hbk' with e1
      subst e1
      exact ⟨by rw [hs1]; omega, .inr (Nat.le_refl _)⟩
theorem ef_appvoid {t e : TypeId} {x y : Operand} {sz' : Nat} {sz bytes d : Nat} {zs : List Value} {rows : List (List Pr)} {j : Nat} (hg : o.guard = none) (hd : o.dst = some d) (hn : d < n) (ho : o.op = .call { callee := .builtin .append, args := #[x, y], argTypes := #[t, t] })
    (ht : P.underlying t = some (.slice e)) (hz : sizeB P e = some sz) (hby : bytesB P e = some bytes) (hze : zeroB P e = some zs) (hzl : zs.length = sz) (hone : zs.all (·.oneCell') = true) (hsz : 0 < sz)
    (hx : VL E x (full sz' [])) (hy : VL E y (slice sz rows)) (hpos : 0 < rows.length) (hmax : rows.length ≤ maxLen) (hfit : rows.length * bytes ≤ 140737488355328) : OpEf P M0 w0 S n j (SR.c noRes) ⟨d, mutRes e sz rows⟩ o E (lens rows.length) := by
  refine ⟨hg, fun M w a rs hszn he hI hj => ?_⟩
  have h2 := hy.ev he (by simp [ho, Op.operands, Call.operands])
  obtain ⟨_, A, h1⟩ := hx.ev he (by simp [ho, Op.operands, Call.operands])
  simp only [List.length_nil] at h1
  obtain ⟨v', w', M', hrun, h3, h4, h5⟩ := app_void A (ty := o.type) ht hz hby hze hzl hone hsz hI hj h2 hpos hmax hfit
  have hrun2 : (execOp a.eval o).run P w = .ok (.value v') w' := by simp [execOp, ho, resolve, invoke, builtin, h1, hrun]
  rw [hrun2]
  refine ⟨M', h3, h4, ?_⟩
  have : (SR.at_ (a.put o.dst v') ⟨d, mutRes e sz rows⟩) = mutRes e sz rows v' := by unfold SR.at_ Slot.val; dsimp only; rw [hd, put_same (by rw [hszn]; exact hn)]
  rw [this]; exact h5


theorem okb_len {I : Asn} {t e : TypeId} {x : Operand} {A : Option Addr} {m cap : Nat} (ho : o.op = .call { callee := .builtin .len, args := #[x], argTypes := #[t] }) (ht : P.underlying t = some (.slice e)) (hx : VL E x (is (.slice A m cap))) : OpOK P I o E (int m) :=
  OpOK.same fun M w a he _ => by
    have h1 : a.eval x = _ := hx.ev he (by simp [ho, Op.operands, Call.operands])
    exact ⟨.int .i64 m, by simp [execOp, ho, resolve, invoke, builtin, Builtin.len_, h1, run_underlying ht, goInt], rfl⟩
theorem okb_sliceTo {I : Asn} {t e : TypeId} {x y : Operand} {k : IntKind} {h : Int} {sz b m cap : Nat} (ho : o.op = .slice t x none (some y) none) (ht : P.underlying t = some (.slice e)) (hz : sizeB P e = some sz) (hx : VL E x (is (.slice (some ⟨b, 0, none⟩) m cap))) (hy : VL E y (is (.int k h))) (h0 : 0 ≤ h) (hl : h ≤ m) (hc : m ≤ cap) (h1m : 0 < cap) :
    OpOK P I o E (is (.slice (some ⟨b, 0, none⟩) h.toNat cap)) :=
  OpOK.same fun M w a he _ => by
    have h1 : a.eval x = _ := hx.ev he (by simp [ho, Op.operands])
    have h3 : a.eval y = _ := hy.ev he (by simp [ho, Op.operands])
    have hb : h ≤ (cap : Int) := by omega
    refine ⟨_, ?_, rfl⟩
    simp [execOp, ho, h1, h3, Instr.sliceAt, Instr.slice, run_underlying ht, Instr.sliceBounds, Instr.sliceBound, asIntOf, h0, hb, run_size hz]
    intro _; rfl
theorem okb_sliceFrom {I : Asn} {t e : TypeId} {x y : Operand} {k : IntKind} {l : Int} {sz b m cap : Nat} (ho : o.op = .slice t x (some y) none none) (ht : P.underlying t = some (.slice e)) (hz : sizeB P e = some sz) (hx : VL E x (is (.slice (some ⟨b, 0, none⟩) m cap))) (hy : VL E y (is (.int k l))) (h0 : 0 ≤ l) (hl : l < m) (hc : m ≤ cap) :
    OpOK P I o E (is (.slice (some ⟨b, l.toNat * sz, none⟩) (m - l.toNat) (cap - l.toNat))) :=
  OpOK.same fun M w a he _ => by
    have h1 : a.eval x = _ := hx.ev he (by simp [ho, Op.operands])
    have h3 : a.eval y = _ := hy.ev he (by simp [ho, Op.operands])
    have hb : l ≤ (m : Int) := by omega
    have hne : ¬ cap = l.toNat := by omega
    refine ⟨_, ?_, rfl⟩
    simp [execOp, ho, h1, h3, Instr.sliceAt, Instr.slice, run_underlying ht, Instr.sliceBounds, Instr.sliceBound, asIntOf, h0, hb, run_size hz, hne, addr_add]
theorem zero_hl {M : Av} {w : World} {zs : List Value} {z : Array Value} {k : Nat} (hz : z.toList = zs) (h0 : 0 < zs.length) : HL M w (List.replicate k (zs.map is)).flatten (Builtin.zeroCells z k).toList := by
  have hlr : ∀ r ∈ List.replicate k (zs.map is), r.length = zs.length := fun r hr => by rw [List.eq_of_mem_replicate hr, List.length_map]
  have hfl := flat_len hlr
  rw [List.length_replicate] at hfl
  have hzs : z.size = zs.length := by rw [← hz]; simp
  refine hl_of (by rw [Array.length_toList, size_zeroCells, hfl, hzs]) fun i p hi => ?_
  have hil : i < k * zs.length := by rw [← hfl]; rcases Nat.lt_or_ge i (List.replicate k (zs.map is)).flatten.length with h | h; exact h; rw [List.getElem?_eq_none h] at hi; cases hi
  have hq : i / zs.length < k := Nat.div_lt_of_lt_mul (by rw [Nat.mul_comm]; exact hil)
  have hm : i % zs.length < zs.length := Nat.mod_lt _ h0
  have he : i / zs.length * zs.length + i % zs.length = i := by rw [Nat.mul_comm]; exact Nat.div_add_mod i _
  rw [← he, flat_at hlr (by rw [List.getElem?_replicate, if_pos hq]) hm, List.getElem?_map, List.getElem?_eq_getElem hm] at hi
  simp only [Option.map_some, Option.some.injEq] at hi
  subst hi
  refine ⟨zs[i % zs.length], ?_, rfl⟩
  have hzl : i < k * z.size := by rw [hzs]; exact hil
  simp only [Builtin.zeroCells, Array.toList_map, Array.toList_range, List.getElem?_map]
  rw [List.getElem?_range hzl]
  subst hz
  simp only [Option.map_some, Option.some.injEq]
  have hm' : i % z.size < z.size := by rw [hzs]; exact hm
  rw [getElem!_pos z _ hm', ← Array.getElem_toList]
  congr 1
theorem ef_clear {t e : TypeId} {x : Operand} {j : Nat} {new : Bool} {b off m cap sz : Nat} {zs : List Value} {T : TypeId} {ps ps' : List Pr} (hg : o.guard = none) (ho : o.op = .call { callee := .builtin .clear, args := #[x], argTypes := #[t] })
    (ht : P.underlying t = some (.slice e)) (hz : sizeB P e = some sz) (hze : zeroB P e = some zs) (hzl : zs.length = sz) (hone : zs.all (·.oneCell') = true) (hsz : 0 < sz) (hx : VL E x (is (.slice (some ⟨b, off, none⟩) m cap))) (hm : 0 < m)
    (hl : off + m * sz ≤ ps.length) (hps : ps.take off ++ (List.replicate m (zs.map is)).flatten ++ ps.drop (off + m * sz) = ps') : OpEf P M0 w0 S n j (SR.c (cellsRes new b T ps)) (SR.c (cellsRes new b T ps')) o E any := by
  refine ⟨hg, fun M w a rs hszn he hI hj => ?_⟩
  have h1 : a.eval x = _ := hx.ev he (by simp [ho, Op.operands, Call.operands])
  unfold zeroB at hze
  cases hi : P.info? e with
  | none => rw [hi] at hze; cases hze
  | some i =>
    rw [hi] at hze
    simp only [Option.map_eq_some_iff] at hze
    obtain ⟨z, hzz, hze⟩ := hze
    have hzc : z.cells.size = sz := by rw [← hzl, ← hze]; simp
    obtain ⟨⟨_, cs, h4, h5, h6⟩, _⟩ := hI.hold _ (List.mem_of_getElem? hj)
    have h5l := h5.length
    have hzs : (Builtin.zeroCells z.cells m).size = m * sz := by rw [size_zeroCells, hzc]
    have h3 : ∀ c ∈ (Builtin.zeroCells z.cells m).toList, c.oneCell' = true := zeroCells_one hze hone
    have hrun : (storeCells ⟨b, off, none⟩ (Builtin.zeroCells z.cells m).toList 0).run P w = .ok () (w.setRow b (cs.take off ++ (Builtin.zeroCells z.cells m).toList ++ cs.drop (off + m * sz)).toArray) := by
      have := run_storeCells_at (P := P) b off T (Builtin.zeroCells z.cells m).toList 0 cs.toArray w h4 (by simp [hzs]; omega) h3
      simpa [hzs] using this
    obtain ⟨m', rfl⟩ : ∃ m', m = m' + 1 := ⟨m - 1, by omega⟩
    have hrun2 : (execOp a.eval o).run P w = .ok (.value (.tuple #[])) (w.setRow b (cs.take off ++ (Builtin.zeroCells z.cells (m' + 1)).toList ++ cs.drop (off + (m' + 1) * sz)).toArray) := by
      simp [execOp, ho, h1, resolve, invoke, builtin, Builtin.clear_, run_underlying ht, zeroValue, typeInfo, hi, hzz, hrun]
    rw [hrun2]
    obtain ⟨h7, h8⟩ := HpH.write (qs := ps') (cs := cs.take off ++ (Builtin.zeroCells z.cells (m' + 1)).toList ++ cs.drop (off + (m' + 1) * sz)) hI hj (by rw [← hps]; exact (((h5.take off).app (zero_hl hze (by omega)))).app (h5.drop (off + (m' + 1) * sz)))
      (fun c hc => by
        simp only [List.mem_append] at hc
        rcases hc with (hc | hc) | hc
        · exact h6 c (List.mem_of_mem_take hc)
        · exact h3 c hc
        · exact h6 c (List.mem_of_mem_drop hc))
    exact ⟨M, trivial, h8, h7⟩

theorem cells_at {β : Type} {f : β → List Pr} {l : List β} {qs : List Pr} {sz : Nat} (hf : ∀ x, (f x).length = sz) {i : Nat} {x : β} (h : l[i]? = some x) : ((((l.map f).flatten ++ qs).drop (i * sz)).take sz) = f x := by
  have hl : ∀ r ∈ l.map f, r.length = sz := fun r hr => by obtain ⟨y, _, rfl⟩ := List.mem_map.1 hr; exact hf y
  have hi : i < l.length := by rcases Nat.lt_or_ge i l.length with h' | h'; exact h'; rw [List.getElem?_eq_none h'] at h; cases h
  have hfl := flat_len hl
  rw [List.length_map] at hfl
  have hle : (i + 1) * sz ≤ l.length * sz := Nat.mul_le_mul_right sz hi
  rw [Nat.add_mul, Nat.one_mul] at hle
  apply List.ext_getElem?
  intro k
  rw [List.getElem?_take]
  split
  · rename_i hk
    rw [List.getElem?_drop, List.getElem?_append_left (by rw [hfl]; omega), flat_at hl (by rw [List.getElem?_map, h]; rfl) hk]
  · rename_i hk
    rw [List.getElem?_eq_none (by rw [hf]; omega)]
theorem cells_set {β : Type} {f : β → List Pr} {sz : Nat} (hf : ∀ x, (f x).length = sz) : ∀ {l : List β} {qs : List Pr} {i : Nat} {x : β}, i < l.length → ((l.map f).flatten ++ qs).take (i * sz) ++ f x ++ ((l.map f).flatten ++ qs).drop (i * sz + sz) = ((l.set i x).map f).flatten ++ qs
  | [], _, _, _, h => by simp at h
  | a :: l, qs, 0, x, _ => by
    simp only [List.map_cons, List.flatten_cons, Nat.zero_mul, List.take_zero, List.nil_append, Nat.zero_add, List.set_cons_zero]
    rw [← hf a, List.append_assoc, List.drop_left, List.append_assoc]
  | a :: l, qs, i + 1, x, h => by
    have ih := cells_set hf (l := l) (qs := qs) (i := i) (x := x) (by simpa using h)
    simp only [List.map_cons, List.flatten_cons, List.set_cons_succ]
    have e1 : (i + 1) * sz = (f a).length + i * sz := by rw [hf a, Nat.add_mul]; omega
    rw [List.append_assoc, List.append_assoc, e1, List.take_append, List.take_of_length_le (by omega), show (f a).length + i * sz - (f a).length = i * sz by omega, show (f a).length + i * sz + sz = (f a).length + (i * sz + sz) by omega, List.drop_append, List.drop_of_length_le (by omega), show (f a).length + (i * sz + sz) - (f a).length = i * sz + sz by omega, List.nil_append, List.append_assoc (f a) _ qs, ← ih]
    simp only [List.append_assoc]
theorem TO.openM {ops : Array Oper} {r : List Oper} {Q : Exit → Act → World → Prop} {e : TypeId} {sz : Nat} {rows : List (List Pr)} {v : Value} (j : Nat) (hj : rs[j]? = some (mutRes e sz rows v))
    (k : ∀ (b cap : Nat) (spare : List Value), v = .slice (some ⟨b, 0, none⟩) rows.length cap → rows.length ≤ cap → cap ≤ maxLen → spare.length = (cap - rows.length) * sz → TO P n ops r E (Hp M0 w0 S (rs.set j (cellsRes true b e (rows.flatten ++ spare.map is)))) Q) : TO P n ops r E (Hp M0 w0 S rs) Q :=
  fun m hl a w hs => let ⟨b, cap, spare, h1, h2, h3, h4, h5⟩ := hs.openM j hj; k b cap spare h1 h2 h3 h4 m hl a w h5
theorem cells_len {β : Type} {f : β → List Pr} {l : List β} {qs : List Pr} {sz : Nat} (hf : ∀ x, (f x).length = sz) : ((l.map f).flatten ++ qs).length = l.length * sz + qs.length := by
  rw [List.length_append, flat_len (sz := sz) (fun r hr => by obtain ⟨y, _, rfl⟩ := List.mem_map.1 hr; exact hf y), List.length_map]
theorem map_rows {β : Type} {f : β → List Pr} {l : List β} {sz : Nat} (hf : ∀ x, (f x).length = sz) : ∀ r ∈ l.map f, r.length = sz := fun r hr => by obtain ⟨y, _, rfl⟩ := List.mem_map.1 hr; exact hf y
theorem cells_setN {β : Type} {f : β → List Pr} {sz : Nat} (hf : ∀ x, (f x).length = sz) {l : List β} {qs : List Pr} {i : Nat} {x : β} (h : i < l.length) : ((l.map f).flatten ++ qs).take (0 + ((i : Nat) : Int).toNat * sz) ++ f x ++ ((l.map f).flatten ++ qs).drop (0 + ((i : Nat) : Int).toNat * sz + sz) = ((l.set i x).map f).flatten ++ qs := by
  rw [Nat.zero_add, Int.toNat_natCast]; exact cells_set hf h
theorem St.frzS {b cap sz : Nat} {e : TypeId} {rows : List (List Pr)} {qs : List Pr} (j d : Nat) {p : Pr} (hj : rs[j]? = some (cellsRes true b e (rows.flatten ++ qs))) (hd : E.lookup d = some p) (hp : Pr.le p (is (.slice (some ⟨b, 0, none⟩) rows.length cap)))
    (hl : ∀ r ∈ rows, r.length = sz) (hc : rows.length ≤ cap) (hm : cap ≤ maxLen) (hq : qs.length = (cap - rows.length) * sz)
    {a : Act} {w : World} (h : St n E (Hp M0 w0 S rs) a w) : St n ((d, andIs (.slice (some ⟨b, 0, none⟩) rows.length cap) (slice sz rows)) :: E) (Hp M0 w0 S (rs.set j (appRes e sz (.slice (some ⟨b, 0, none⟩) rows.length cap)))) a w := by
  obtain ⟨M, h1, h2, h3, h4⟩ := h
  obtain ⟨M', h5, h6, h7⟩ := HpH.frz h4 hj hl hc hm hq
  refine ⟨M', h1, h2, fun s q hs => ?_, h6⟩
  simp only [List.lookup] at hs
  split at hs
  · rename_i e1
    have : s = d := by simpa using e1
    subst this
    simp only [Option.some.injEq] at hs
    subst hs
    have h8 := hp _ _ _ (h3 _ _ hd)
    exact ⟨h8, by rw [show a.tmps.getD s undef = _ from h8]; exact h7⟩
  · exact q.st _ _ _ _ _ h5 (h3 s q hs)
theorem Tr.frzS {Q : Exit → Act → World → Prop} {c : Code} {b cap sz : Nat} {e : TypeId} (rows : List (List Pr)) {qs : List Pr} (j d : Nat) {p : Pr} (hj : rs[j]? = some (cellsRes true b e (rows.flatten ++ qs))) (hd : E.lookup d = some p) (hp : Pr.le p (is (.slice (some ⟨b, 0, none⟩) rows.length cap)))
    (hl : ∀ r ∈ rows, r.length = sz) (hc : rows.length ≤ cap) (hm : cap ≤ maxLen) (hq : qs.length = (cap - rows.length) * sz)
    (k : Tr P n ((d, andIs (.slice (some ⟨b, 0, none⟩) rows.length cap) (slice sz rows)) :: E) (Hp M0 w0 S (rs.set j (appRes e sz (.slice (some ⟨b, 0, none⟩) rows.length cap)))) c Q) : Tr P n E (Hp M0 w0 S rs) c Q :=
  Tr.conv (fun _ _ hs => hs.frzS j d hj hd hp hl hc hm hq) k
theorem Fin.frzS {Q : Exit → Act → World → Prop} {x : Exit} {b cap sz : Nat} {e : TypeId} (rows : List (List Pr)) {qs : List Pr} (j d : Nat) {p : Pr} (hj : rs[j]? = some (cellsRes true b e (rows.flatten ++ qs))) (hd : E.lookup d = some p) (hp : Pr.le p (is (.slice (some ⟨b, 0, none⟩) rows.length cap)))
    (hl : ∀ r ∈ rows, r.length = sz) (hc : rows.length ≤ cap) (hm : cap ≤ maxLen) (hq : qs.length = (cap - rows.length) * sz)
    (k : Fin n ((d, andIs (.slice (some ⟨b, 0, none⟩) rows.length cap) (slice sz rows)) :: E) (Hp M0 w0 S (rs.set j (appRes e sz (.slice (some ⟨b, 0, none⟩) rows.length cap)))) Q x) : Fin n E (Hp M0 w0 S rs) Q x :=
  Fin.conv (fun _ _ hs => hs.frzS j d hj hd hp hl hc hm hq) k
end
end Cp
namespace Cp
open Go Go.RowKit Go.Great

section
variable {P : Program} {n : Nat} {E : Env} {M0 : Av} {w0 : World} {S : Nat → Prop} {rs : List Res} {o : Oper} {g : Func} {M1 : Av} {w1 : World}
theorem cell1_at {β : Type} {f : β → List Pr} {l : List β} {qs : List Pr} (hf : ∀ x, (f x).length = 1) {i : Int} {x : β} {p : Pr} (h : l[i.toNat]? = some x) (hp : f x = [p]) : ((l.map f).flatten ++ qs)[0 + i.toNat * 1]? = some p := by
  have hl : ∀ r ∈ l.map f, r.length = 1 := map_rows hf
  have hi : i.toNat < l.length := by rcases Nat.lt_or_ge i.toNat l.length with h' | h'; exact h'; rw [List.getElem?_eq_none h'] at h; cases h
  have hfl := flat_len hl
  rw [List.length_map] at hfl
  rw [Nat.zero_add, List.getElem?_append_left (by rw [hfl]; omega), show i.toNat * 1 = i.toNat * 1 + 0 by omega, flat_at hl (by rw [List.getElem?_map, h]; rfl) (by omega), hp]; rfl
theorem Fin.opn {Q : Exit → Act → World → Prop} {x : Exit} (s j : Nat) {v : Value} {f : Value → Res} (g : Nat → Res) (hs : E.lookup s = some (andIs v (Cp.ex fun b => ptr b 0))) (hi : rs[j]? = some (f v)) (hf : ∀ b, f (.pointer (some ⟨b, 0, none⟩)) = g b)
    (k : ∀ b, Fin n ((s, ptr b 0) :: E) (Hp M0 w0 S (rs.set j (g b))) Q x) : Fin n E (Hp M0 w0 S rs) Q x := by
  intro a w hst
  obtain ⟨M, h1, h2, he, h4⟩ := hst
  obtain ⟨h5, b, h6⟩ := he s _ hs
  have hv : v = .pointer (some ⟨b, 0, none⟩) := by rw [← h5]; exact h6
  have hj : rs.set j (g b) = rs := by
    have hjl : j < rs.length := by rcases Nat.lt_or_ge j rs.length with h | h; exact h; rw [List.getElem?_eq_none h] at hi; cases hi
    rw [← hf b, ← hv]
    rw [List.getElem?_eq_getElem hjl] at hi
    simp at hi
    rw [← hi, List.set_getElem_self]
  refine k b a w ⟨M, h1, h2, ?_, by rw [hj]; exact h4⟩
  intro t q hq
  simp only [List.lookup] at hq
  by_cases ht : t = s
  · subst ht; simp at hq; subst hq; exact h6
  · rw [show (t == s) = false by simpa using ht] at hq; exact he t q hq
theorem cells_clearR {β : Type} {f : β → List Pr} {sz : Nat} (hf : ∀ x, (f x).length = sz) {z : List Pr} (hz : z.length = sz) {l : List β} {qs : List Pr} {i m : Nat} (hm : m = l.length - ((i : Nat) : Int).toNat) (h : i ≤ l.length) :
    ((l.map f).flatten ++ qs).take (((i : Nat) : Int).toNat * sz) ++ (List.replicate m z).flatten ++ ((l.map f).flatten ++ qs).drop (((i : Nat) : Int).toNat * sz + m * sz) = ((l.take i).map f).flatten ++ (List.replicate (l.length - i) z).flatten ++ qs := by
  rw [Int.toNat_natCast] at hm ⊢; subst hm
  have hl2 : ∀ r ∈ (l.take i).map f, r.length = sz := map_rows hf
  have e1 : i * sz + (l.length - i) * sz = ((l.map f).flatten).length := by rw [flat_len (map_rows hf), List.length_map, ← Nat.add_mul]; congr 1; omega
  have e2 : (l.map f).flatten = ((l.take i).map f).flatten ++ ((l.drop i).map f).flatten := by rw [← List.flatten_append, ← List.map_append, List.take_append_drop]
  have e3 : (((l.take i).map f).flatten).length = i * sz := by rw [flat_len hl2, List.length_map, List.length_take]; congr 1; omega
  rw [e1, List.drop_left]
  congr 2
  rw [e2, List.append_assoc, ← e3, List.take_left]
end
end Cp
namespace Cp
open Go Go.RowKit Go.Great

section
variable {P : Program} {n : Nat} {E : Env} {M0 : Av} {w0 : World} {S : Nat → Prop} {rs : List Res} {o : Oper}

/-- A slice of ours: nil, or its elements and what lies behind them. -/
def ownRes (e : TypeId) (sz : Nat) (rows : List (List Pr)) (v : Value) : Res where
  blk := match v with | .slice (some a) _ _ => some a.block | _ => none
  new := true
  h M w := (rows = [] ∧ v = .slice none 0 0) ∨ (mutRes e sz rows v).h M w
  st M w M' w' he hk h := h.imp id fun h => (mutRes e sz rows v).st M w M' w' he hk h
theorem Tr.addown {Q : Exit → Act → World → Prop} {c : Code} (e : TypeId) (sz : Nat) (k : Tr P n E (Hp M0 w0 S (ownRes e sz [] (.slice none 0 0) :: rs)) c Q) : Tr P n E (Hp M0 w0 S rs) c Q :=
  Tr.conv (fun _ _ ⟨M, h1, h2, h3, h4⟩ => ⟨M, h1, h2, h3, HpH.add0 h4 (r := ownRes e sz [] (.slice none 0 0)) rfl (Or.inl ⟨rfl, rfl⟩)⟩) k

theorem app_mut {M : Av} {w : World} {t ty e : TypeId} {sz bytes : Nat} {zs : List Value} {rows rows' : List (List Pr)} {v u : Value} {j : Nat} (ht : P.underlying t = some (.slice e)) (hz : sizeB P e = some sz) (hby : bytesB P e = some bytes) (hze : zeroB P e = some zs) (hzl : zs.length = sz) (hone : zs.all (·.oneCell') = true) (hsz : 0 < sz)
    (h : HpH M0 w0 S rs M w) (hj : rs[j]? = some (ownRes e sz rows v)) (hl : ∀ r ∈ rows, r.length = sz) (hu : (slice sz rows').h M w u) (hpos : 0 < rows'.length) (hmax : rows.length + rows'.length ≤ maxLen) (hfit : (rows.length + rows'.length) * bytes ≤ 140737488355328) :
    ∃ v' w' M', (Builtin.append_ #[t, t] ty #[v, u]).run P w = .ok v' w' ∧ (lens (rows.length + rows'.length)).h M' w' v' ∧ Ext M w M' w' ∧ HpH M0 w0 S (rs.set j (ownRes e sz (rows ++ rows') v')) M' w' := by
  have hjl : j < rs.length := by rcases Nat.lt_or_ge j rs.length with h | h; exact h; rw [List.getElem?_eq_none h] at hj; cases hj
  rcases (h.hold _ (List.mem_of_getElem? hj)).1 with ⟨rfl, rfl⟩ | hmut
  · have h1 := h.swap1 (r' := noRes) hj rfl rfl trivial
    have hj1 : (rs.set j noRes)[j]? = some noRes := List.getElem?_set_self hjl
    obtain ⟨v', w', M', hrun, h2, h3, h4⟩ := app_new (ty := ty) ht hz hby hze hzl hone hsz h1 hj1 hu hpos (by simpa using hmax) (by simpa using hfit)
    rw [List.set_set] at h4
    have h5 := h4.swap1 (r' := ownRes e sz ([] ++ rows') v') (List.getElem?_set_self hjl) rfl rfl (.inr (h4.hold _ (List.mem_of_getElem? (List.getElem?_set_self hjl))).1)
    rw [List.set_set] at h5
    exact ⟨v', w', M', hrun, by simpa using h2, h3, h5⟩
  · obtain ⟨b, cap, spare, rfl, hnc, hcm, hsp, hcr⟩ := hmut
    have hC := h.swap1 (r' := cellsRes true b e (rows.flatten ++ spare.map is)) hj rfl rfl hcr
    have hjC : (rs.set j (cellsRes true b e (rows.flatten ++ spare.map is)))[j]? = some (cellsRes true b e (rows.flatten ++ spare.map is)) := List.getElem?_set_self hjl
    obtain ⟨⟨hMb, cs, hheap, hcs, hone'⟩, hbb⟩ := hC.hold _ (List.mem_of_getElem? hjC)
    have hfl := flat_len hl
    have hcl := hcs.length
    rw [List.length_append, hfl, List.length_map, hsp, ← Nat.add_mul, show rows.length + (cap - rows.length) = cap by omega] at hcl
    unfold sizeB at hz
    unfold bytesB at hby
    unfold zeroB at hze
    cases hi : P.info? e with
    | none => rw [hi] at hz; cases hz
    | some i =>
      rw [hi] at hz hby hze
      simp only [Option.map_some, Option.some.injEq, Option.map_eq_some_iff] at hz hby hze
      obtain ⟨z, hzz, hze⟩ := hze
      have hzc : z.cells.size = sz := by rw [← hzl, ← hze]; simp
      obtain ⟨A', c', rfl, hmc, hcm', hA', hrows'⟩ := hu
      have hu0 : (slice sz rows').h M w (.slice A' rows'.length c') := ⟨A', c', rfl, hmc, hcm', hA', hrows'⟩
      obtain ⟨ad', rfl⟩ : ∃ ad', A' = some ad' := by
        obtain ⟨_, b, hb, _⟩ := hrows' 0 _ (List.getElem?_eq_getElem hpos)
        exact ⟨b, hb⟩
      obtain ⟨news, hflat, hcell⟩ := slice_flat hsz hu0
      have hnl := hflat.1
      have hnews := hflat.hl hsz
      have hT : HL M w rows.flatten (cs.take (rows.length * sz)) := by
        have := hcs.take (rows.length * sz)
        rwa [← hfl, List.take_left, hfl] at this
      have hne : (.slice (some ⟨b, 0, none⟩) (rows ++ rows').length cap : Value) = .slice (some ⟨b, 0, none⟩) (rows.length + rows'.length) cap := by rw [List.length_append]
      by_cases hroom : rows.length + rows'.length ≤ cap
      · have hle : (rows.length + rows'.length) * sz ≤ cap * sz := Nat.mul_le_mul_right sz hroom
        rw [Nat.add_mul] at hle
        have hrun := run_append_room (P := P) (w := w) t ty e i ht hi b rows.length cap cs.toArray hheap ad' rows'.length c' news (by rw [hz]; exact hnl) (fun k u hk => (hcell k u hk).1) hflat.2.1 hroom (by rw [hz, hnl]; simp; omega)
        rw [hz, hnl] at hrun
        have hD : HL M w ((spare.drop (rows'.length * sz)).map is) (cs.drop (rows.length * sz + rows'.length * sz)) := by
          have := hcs.drop (rows.length * sz + rows'.length * sz)
          have e1 : (rows.flatten ++ spare.map is).drop (rows.length * sz + rows'.length * sz) = (spare.drop (rows'.length * sz)).map is := by rw [← hfl, ← List.drop_drop, List.drop_left, List.map_drop]
          rwa [e1] at this
        obtain ⟨hW, hX⟩ := HpH.write (qs := rows.flatten ++ rows'.flatten ++ (spare.drop (rows'.length * sz)).map is) (cs := cs.take (rows.length * sz) ++ news ++ cs.drop (rows.length * sz + rows'.length * sz)) hC hjC ((hT.app hnews).app hD) (fun c hc => by
          simp only [List.mem_append] at hc
          rcases hc with (hc | hc) | hc
          · exact hone' c (List.mem_of_mem_take hc)
          · exact hflat.2.1 c hc
          · exact hone' c (List.mem_of_mem_drop hc))
        rw [List.set_set] at hW
        refine ⟨_, _, M, hrun, ⟨_, _, rfl⟩, hX, ?_⟩
        have hW2 := hW.swap1 (r' := ownRes e sz (rows ++ rows') (.slice (some ⟨b, 0, none⟩) (rows.length + rows'.length) cap)) (List.getElem?_set_self hjl) rfl rfl (.inr ⟨b, cap, spare.drop (rows'.length * sz), hne.symm, by rw [List.length_append]; exact hroom, hcm, by
          rw [List.length_drop, hsp, List.length_append, ← Nat.sub_mul]; congr 1; omega, by
          rw [List.flatten_append]; exact (hW.hold _ (List.mem_of_getElem? (List.getElem?_set_self hjl))).1⟩)
        rw [List.set_set] at hW2
        exact hW2
      · have hg : cap < rows.length + rows'.length := by omega
        have holds : ∀ k u, (cs.take (rows.length * sz))[k]? = some u → w.cell? ((⟨b, 0, none⟩ : Addr).add k) = some u := by
          intro k u hk
          have hk2 : cs[k]? = some u := by
            rw [List.getElem?_take] at hk
            split at hk
            · exact hk
            · cases hk
          rw [addr_add]
          simp [World.cell?, hheap, hk2]
        have hto : (cs.take (rows.length * sz)).length = rows.length * sz := by rw [List.length_take, hcl]; exact Nat.min_eq_left (Nat.mul_le_mul_right sz hnc)
        have hrun := run_append_grow (P := P) (w := w) t ty e i z ht hi hzz ⟨b, 0, none⟩ rows.length cap (cs.take (rows.length * sz)) (by rw [hz]; exact hto) holds ad' rows'.length c' news (by rw [hz]; exact hnl) (fun k u hk => (hcell k u hk).1) hg (by unfold maxLen at hmax; omega) (by rw [hby]; exact growslice_fits hg hfit)
        generalize hcap : grownCap w (rows.length + rows'.length) cap e = cap' at hrun
        have hge : rows.length + rows'.length ≤ cap' := by rw [← hcap]; exact grownCap_ge _ _ _ _
        have hle : cap' ≤ maxLen := by rw [← hcap]; exact grownCap_le_maxLen _ _ _ _ hmax
        generalize hzc' : Builtin.zeroCells z.cells (cap' - (rows.length + rows'.length)) = zc at hrun
        have hzs : zc.size = (cap' - (rows.length + rows'.length)) * sz := by rw [← hzc', size_zeroCells, hzc]
        have hzo : ∀ c ∈ zc.toList, c.oneCell' = true := by rw [← hzc']; exact zeroCells_one hze hone
        generalize holdsN : ((cs.take (rows.length * sz)).toArray ++ news.toArray ++ zc) = arr at hrun
        have harr : arr.toList = cs.take (rows.length * sz) ++ news ++ zc.toList := by rw [← holdsN]; simp
        have hb : Below w.heap.size w (w.drew.alloc (.cells arr e)) := ((Below.refl _ _).drew).alloc (Nat.le_refl _) _
        have h2 := Ext.below (M := M) hb
        have hext : Ext M w (fun b o => M b o ∨ b = w.heap.size) (w.drew.alloc (.cells arr e)) := by
          refine ⟨h2.size, fun a v hc hm => ⟨fun hx => ?_, (h2.keep a v hc hm).2⟩, fun b o ho hp hm => ⟨fun hx => ?_, (h2.obj b o ho hp hm).2⟩⟩
          · rcases hx with hx | hx
            · exact hm hx
            · have := cell_lt hc; omega
          · rcases hx with hx | hx
            · exact hm hx
            · subst hx; simp at ho
        have hs1 : (w.drew.alloc (.cells arr e)).heap.size = w.heap.size + 1 := by simp
        refine ⟨_, _, fun b o => M b o ∨ b = w.heap.size, hrun, ⟨_, _, rfl⟩, hext, ?_⟩
        refine h.replace hj hext hb.os hb.tape hb.output (fun k hk _ => hb.block k hk) rfl (fun b o hm _ => .inl hm) (fun b o hx => ?_) ?_ rfl (fun b hbk => ?_)
        · rcases hx with hx | hx
          · have := h.bd _ _ hx; omega
          · omega
        · refine .inr ⟨w.heap.size, cap', zc.toList, by rw [List.length_append], by rw [List.length_append]; exact hge, hle, by rw [List.length_append]; simpa using hzs, fun o => .inr rfl, arr.toList, ?_, ?_, ?_⟩
          · have hh : (w.drew.alloc (.cells arr e)).heap[w.heap.size]? = some (.cells arr e (0, 0)) := heap_alloc_new w.drew _
            rw [hh]
          · rw [harr, List.flatten_append]; exact ((hT.st hext).app ((hflat.st hext).hl hsz)).app (hl_is _ _ _)
          · intro c hc
            rw [harr] at hc
            simp only [List.mem_append] at hc
            rcases hc with (hc | hc) | hc
            · exact hone' c (List.mem_of_mem_take hc)
            · exact hflat.2.1 c hc
            · exact hzo c hc
        · have hbk' : some w.heap.size = some b := hbk
          injection hbk' with e1
          subst e1
          exact ⟨by rw [hs1]; omega, .inr (Nat.le_refl _)⟩
theorem ef_appmut {t e : TypeId} {x y : Operand} {sz bytes d : Nat} {zs : List Value} {rows rows' : List (List Pr)} {v : Value} {p : Pr} {j : Nat} (hg : o.guard = none) (hd : o.dst = some d) (hn : d < n) (ho : o.op = .call { callee := .builtin .append, args := #[x, y], argTypes := #[t, t] })
    (ht : P.underlying t = some (.slice e)) (hz : sizeB P e = some sz) (hby : bytesB P e = some bytes) (hze : zeroB P e = some zs) (hzl : zs.length = sz) (hone : zs.all (·.oneCell') = true) (hsz : 0 < sz)
    (hx : VL E x (andIs v p)) (hy : VL E y (slice sz rows')) (hl : ∀ r ∈ rows, r.length = sz) (hpos : 0 < rows'.length) (hmax : rows.length + rows'.length ≤ maxLen) (hfit : (rows.length + rows'.length) * bytes ≤ 140737488355328) : OpEf P M0 w0 S n j (SR.c (ownRes e sz rows v)) ⟨d, ownRes e sz (rows ++ rows')⟩ o E (lens (rows.length + rows'.length)) := by
  refine ⟨hg, fun M w a rs hszn he hI hj => ?_⟩
  have h1 : a.eval x = v := (hx.ev he (by simp [ho, Op.operands, Call.operands])).1
  have h2 := hy.ev he (by simp [ho, Op.operands, Call.operands])
  obtain ⟨v', w', M', hrun, h3, h4, h5⟩ := app_mut (ty := o.type) ht hz hby hze hzl hone hsz hI hj hl h2 hpos hmax hfit
  have hrun2 : (execOp a.eval o).run P w = .ok (.value v') w' := by simp [execOp, ho, resolve, invoke, builtin, h1, hrun]
  rw [hrun2]
  refine ⟨M', h3, h4, ?_⟩
  have : (SR.at_ (a.put o.dst v') ⟨d, ownRes e sz (rows ++ rows')⟩) = ownRes e sz (rows ++ rows') v' := by unfold SR.at_ Slot.val; dsimp only; rw [hd, put_same (by rw [hszn]; exact hn)]
  rw [this]; exact h5

theorem HpH.frzO {M : Av} {w : World} {sz : Nat} {e : TypeId} {rows : List (List Pr)} {v : Value} {j : Nat} (h : HpH M0 w0 S rs M w) (hj : rs[j]? = some (ownRes e sz rows v)) (hl : ∀ r ∈ rows, r.length = sz) :
    ∃ M', Ext M w M' w ∧ HpH M0 w0 S (rs.set j (appRes e sz v)) M' w ∧ (slice sz rows).h M' w v := by
  have hjl : j < rs.length := by rcases Nat.lt_or_ge j rs.length with h | h; exact h; rw [List.getElem?_eq_none h] at hj; cases hj
  rcases (h.hold _ (List.mem_of_getElem? hj)).1 with ⟨rfl, rfl⟩ | hmut
  · exact ⟨M, Ext.refl _ _, h.swap1 hj rfl rfl (by intro a n c hv; cases hv), nil_slice sz M w _ rfl⟩
  · obtain ⟨b, cap, spare, rfl, hnc, hcm, hsp, hcr⟩ := hmut
    have hC := h.swap1 (r' := cellsRes true b e (rows.flatten ++ spare.map is)) hj rfl rfl hcr
    obtain ⟨M', h1, h2, h3⟩ := HpH.frz hC (List.getElem?_set_self hjl) hl hnc hcm (by rw [List.length_map]; exact hsp)
    rw [List.set_set] at h2
    exact ⟨M', h1, h2, h3⟩

end

section
variable {P : Program} {n : Nat} {E : Env} {M0 : Av} {w0 : World} {S : Nat → Prop} {rs : List Res} {o : Oper} {ops : Array Oper} {r : List Oper}
def FunR (P : Program) (f : FuncId) (args : List Pr) (res : Pr) (r : Res) (r' : Res) (r2 : Res) : Prop := Entry P f ∧ ∀ M0 w0 S rs M w vs, HpH M0 w0 S (r :: r2 :: rs) M w → HL M w args vs →
  Calls P f vs.toArray w fun e w' => ∃ v M', e = .returned v ∧ res.h M' w' v ∧ Ext M w M' w' ∧ HpH M0 w0 S (r' :: r2 :: rs) M' w'
theorem FunR.of {f : FuncId} {g : Func} {c : Code} {ps : List Pr} {res : Pr} {R R' R2 : Res} (hf : P.funcs[f]? = some g) (hb : g.body = some c) (hname : (g.name == "runtime.NumGoroutine") = false) (hlen : ps.length ≤ g.ntmps)
    (h : ∀ M0 w0 S rs M1 w1, Tr P g.ntmps (penv 0 ps) (Hp M0 w0 S (R :: extRes M1 w1 :: R2 :: rs)) c (bodyPost P g (BackM M0 w0 S (R2 :: rs) M1 w1 res (fun _ => R')))) : FunR P f ps res R R' R2 := by
  refine ⟨⟨g, hf, hname, by rw [hb]; rfl⟩, fun M0 w0 S rs M w vs hI hv => ?_⟩
  refine calls_of_wp hf hb (h M0 w0 S rs M w _ _ ⟨M, ?_, rfl, enter_env hv, ?_⟩)
  · have := hv.length
    simp [this]; omega
  · exact HpH.perm (List.Perm.swap _ _ _) (HpH.add0 hI (r := extRes M w) rfl (Ext.refl _ _))
theorem TO.callR {Q : Exit → Act → World → Prop} {f : FuncId} {xs : Array Operand} {ts : Array TypeId} {ps : List Pr} {res : Pr} (j i : Nat) {d : Nat} {R0 R1 R2 : Res} (hj : rs[j]? = some R0) (hi : rs[i]? = some R2) (hij : i ≠ j) (hg : o.guard = none) (hd : o.dst = some d) (hn : d < n) (ho : o.op = .call { callee := .value (.func f), args := xs, argTypes := ts }) (hf : FunR P f ps res R0 R1 R2)
    (hv : Vals E xs.toList ps) (k : TO P n ops r ((d, res) :: E) (Hp M0 w0 S (rs.set j R1)) Q) : TO P n ops (o :: r) E (Hp M0 w0 S rs) Q :=
  TO.eff hg fun K M w a hsz hdf he hI hK => by
    have hI : HpH M0 w0 S rs M w := hI
    have h1 := Vals.evalFor (o := o) (looks_env he) (xs := xs.toList) (fun x hx => by simp [ho, Op.operands, Call.operands]; exact .inr (by simpa using hx)) hv
    have hjl : j < rs.length := by rcases Nat.lt_or_ge j rs.length with h | h; exact h; rw [List.getElem?_eq_none h] at hj; cases hj
    obtain ⟨m, hm⟩ : ∃ m, (rs.eraseIdx j)[m]? = some R2 := by
      by_cases hlt : i < j
      · exact ⟨i, by rw [List.getElem?_eraseIdx, if_pos hlt]; exact hi⟩
      · exact ⟨i - 1, by rw [List.getElem?_eraseIdx, if_neg (by omega), show i - 1 + 1 = i by omega]; exact hi⟩
    have hp : rs.Perm (R0 :: R2 :: (rs.eraseIdx j).eraseIdx m) := (perm_at hj).trans ((perm_at hm).cons _)
    have hp' : (R1 :: R2 :: (rs.eraseIdx j).eraseIdx m).Perm (rs.set j R1) := ((perm_at hm).symm.cons _).trans (perm_set hjl)
    have hgv : GivesR P M0 w0 S o a M w res j (SR.c R1) rs ((execOp a.eval o).run P w) := by
      have hrun : (execOp a.eval o).run P w = .ok (.enter f (xs.toList.map a.eval).toArray) w := by
        simp [execOp, ho, resolve, Deferred.ofValue, Act.eval, invoke, run_callFunc hf.1, map_list xs]
      rw [hrun]
      refine (hf.2 M0 w0 S _ M w _ (HpH.perm hp hI) h1).mono ?_
      rintro e w' ⟨v, M', rfl, h2, h3, h4⟩
      exact ⟨v, M', rfl, h2, h3, HpH.perm hp' h4⟩
    refine step_ef hgv fun v w' M' hv hx hI' => hK _ _ _ _ k ⟨M', by rw [put_size]; exact hsz, by rw [put_defers]; exact hdf, ?_, hI'⟩
    intro s q hq
    simp only [List.lookup] at hq
    by_cases hs : s = d
    · subst hs; simp at hq; subst hq; rw [hd, put_same (by rw [hsz]; exact hn)]; exact hv
    · rw [show (s == d) = false by simpa using hs] at hq; rw [hd, put_other hs]; exact q.st _ _ _ _ _ hx (he s q hq)
end
end Cp
namespace Cp
open Go Go.RowKit Go.Great

abbrev anyK (k : IntKind) : Pr := Cp.ex fun i : Int => is (.int k i)
theorem is_anyK (k : IntKind) (i : Int) : Pr.le (is (.int k i)) (anyK k) := fun _ _ _ h => ⟨i, h⟩
section
variable {P : Program} {I : Asn} {o : Oper} {E : Env}
theorem ok_bits {op : BinOp} {t u : TypeId} {x y : Operand} {k : IntKind} (hop : (op == .xor || op == .or) = true) (ho : o.op = .binOp op t x y u) (hx : VL E x (anyK k)) (hy : VL E y (anyK k)) : OpOK P I o E (anyK k) :=
  OpOK.same fun M w a he _ => by
    obtain ⟨m, h1⟩ := hx.ev he (by simp [ho, Op.operands])
    obtain ⟨n, h2⟩ := hy.ev he (by simp [ho, Op.operands])
    have h1 : a.eval x = .int k m := h1
    have h2 : a.eval y = .int k n := h2
    cases op <;> simp at hop <;> exact ⟨_, by simp [execOp, ho, h1, h2, eqGuard, binOp, Op.intBits]; rfl, _, rfl⟩
theorem ok_shK {op : BinOp} {t u : TypeId} {x y : Operand} {k k' : IntKind} {c : Int} (hop : (op == .shl || op == .shr) = true) (ho : o.op = .binOp op t x y u) (hx : VL E x (anyK k)) (hy : VL E y (is (.int k' c))) (hc : 0 ≤ c) : OpOK P I o E (anyK k) :=
  OpOK.same fun M w a he _ => by
    obtain ⟨m, h1⟩ := hx.ev he (by simp [ho, Op.operands])
    have h1 : a.eval x = .int k m := h1
    have h2 : a.eval y = .int k' c := hy.ev he (by simp [ho, Op.operands])
    have hn : ¬ c < 0 := by omega
    cases op <;> simp at hop <;> exact ⟨_, by simp [execOp, ho, h1, h2, eqGuard, binOp, Op.shift, hn]; rfl, _, rfl⟩
theorem ok_addK {t u : TypeId} {x y : Operand} {k : IntKind} (ho : o.op = .binOp .add t x y u) (hx : VL E x (anyK k)) (hy : VL E y (anyK k)) : OpOK P I o E (anyK k) :=
  OpOK.same fun M w a he _ => by
    obtain ⟨m, h1⟩ := hx.ev he (by simp [ho, Op.operands])
    obtain ⟨n, h2⟩ := hy.ev he (by simp [ho, Op.operands])
    have h1 : a.eval x = .int k m := h1
    have h2 : a.eval y = .int k n := h2
    exact ⟨_, by simp [execOp, ho, h1, h2, eqGuard, binOp, Op.intArith]; rfl, _, rfl⟩
theorem ok_andle {t u : TypeId} {x y : Operand} {m : Int} (ho : o.op = .binOp .and t x y u) (hx : VL E x (anyK .u64)) (hy : VL E y (is (.int .u64 m))) (h0 : 0 ≤ m) (h1m : m < 18446744073709551616) : OpOK P I o E (Cp.ex fun r : Int => fact (0 ≤ r ∧ r ≤ m) (is (.int .u64 r))) :=
  OpOK.same fun M w a he _ => by
    obtain ⟨n, h1⟩ := hx.ev he (by simp [ho, Op.operands])
    have h1 : a.eval x = .int .u64 n := h1
    have h2 : a.eval y = .int .u64 m := hy.ev he (by simp [ho, Op.operands])
    have hm : (BitVec.ofInt 64 m).toNat = m.toNat := by
      rw [BitVec.toNat_ofInt]; omega
    have hle : (BitVec.ofInt 64 n &&& BitVec.ofInt 64 m).toNat ≤ m.toNat := by
      rw [BitVec.toNat_and, hm]; exact Nat.and_le_right
    have hw : IntKind.u64.wrap (((BitVec.ofInt 64 n &&& BitVec.ofInt 64 m).toNat : Nat) : Int) = (((BitVec.ofInt 64 n &&& BitVec.ofInt 64 m).toNat : Nat) : Int) := IntWalk.u64_in _ ⟨by omega, by omega⟩
    refine ⟨_, by simp [execOp, ho, h1, h2, eqGuard, binOp, Op.intBits]; rfl, (((BitVec.ofInt 64 n &&& BitVec.ofInt 64 m).toNat : Nat) : Int), ⟨by omega, by omega⟩, ?_⟩
    exact congrArg (Value.int .u64) hw
theorem ok_shl1 {t u : TypeId} {x y : Operand} {k : Int} {b : Int} (ho : o.op = .binOp .shl t x y u) (hx : VL E x (is (.int .u64 1))) (hy : VL E y (is (.int .i64 k))) (h0 : 0 ≤ k) (h8 : k ≤ 8) (hb : 2 ^ k.toNat ≤ b) : OpOK P I o E (Cp.ex fun r : Int => fact (1 ≤ r ∧ r ≤ b) (is (.int .u64 r))) :=
  OpOK.same fun M w a he _ => by
    have h1 : a.eval x = .int .u64 1 := hx.ev he (by simp [ho, Op.operands])
    have h2 : a.eval y = .int .i64 k := hy.ev he (by simp [ho, Op.operands])
    have hn : ¬ k < 0 := by omega
    have hmin : min k.toNat 64 = k.toNat := by omega
    have e : ((2 ^ k.toNat : Nat) : Int) = (2 : Int) ^ k.toNat := Int.natCast_pow 2 k.toNat
    have hp1' : 1 ≤ 2 ^ k.toNat := Nat.one_le_two_pow
    have hp2' : 2 ^ k.toNat ≤ 256 := Nat.le_trans (Nat.pow_le_pow_right (n := 2) (by omega) (show k.toNat ≤ 8 by omega)) (by decide)
    have hp1 : (1 : Int) ≤ 2 ^ k.toNat := by rw [← e]; omega
    have hp2 : (2 : Int) ^ k.toNat ≤ 256 := by rw [← e]; omega
    have hw : IntKind.u64.wrap (2 ^ k.toNat) = 2 ^ k.toNat := IntWalk.u64_in _ ⟨by omega, by omega⟩
    refine ⟨.int .u64 (IntKind.u64.wrap (1 * 2 ^ (min k.toNat IntKind.u64.bits))), ?_, 2 ^ k.toNat, ⟨hp1, hb⟩, ?_⟩
    · simp only [execOp, ho, h1, h2]
      simp [eqGuard, binOp, Op.shift, hn]
      try rw [show min k.toNat IntKind.u64.bits = k.toNat from hmin]
    · show Value.int _ _ = Value.int _ _
      rw [show min k.toNat IntKind.u64.bits = k.toNat from hmin, Int.one_mul, hw]
end
theorem Fin.retM0r {P : Program} {n : Nat} {E : Env} {M0 : Av} {w0 : World} {S : Nat → Prop} {rs : List Res} {g : Func} {M1 : Av} {w1 : World} {r : Res} (hr : g.results = #[]) : Fin n E (Hp M0 w0 S (r :: extRes M1 w1 :: rs)) (bodyPost P g (BackM M0 w0 S rs M1 w1 unit_ (fun _ => r))) .ret := by
  rintro a w ⟨M, _, hd, he, hi⟩
  obtain ⟨h1, h2⟩ := outM hi
  exact ⟨hd, _, results0 hr, _, M, rfl, rfl, h1, h2⟩
theorem cells_atG {β : Type} {f : β → List Pr} {l : List β} {qs : List Pr} {sz : Nat} (hf : ∀ x, (f x).length = sz) {i : Int} (h : i.toNat < l.length) : ((((l.map f).flatten ++ qs).drop (0 + i.toNat * sz)).take sz) = f (l[i.toNat]'h) := by
  rw [Nat.zero_add]; exact cells_at hf (List.getElem?_eq_getElem h)
theorem cells_setG {β : Type} {f : β → List Pr} {sz : Nat} (hf : ∀ x, (f x).length = sz) {l : List β} {qs : List Pr} {i : Int} {x : β} (h : i.toNat < l.length) : ((l.map f).flatten ++ qs).take (0 + i.toNat * sz) ++ f x ++ ((l.map f).flatten ++ qs).drop (0 + i.toNat * sz + sz) = ((l.set i.toNat x).map f).flatten ++ qs := by
  rw [Nat.zero_add]; exact cells_set hf h
end Cp
namespace Cp
open Go Go.RowKit Go.Great

section
variable {P : Program} {n : Nat} {E : Env} {M0 : Av} {w0 : World} {S : Nat → Prop} {rs : List Res} {o : Oper} {β : Type} {b : Nat} {e : TypeId} {f : β → List Pr} {qs : List Pr} {Φ : List β → Prop}
def relRes (b : Nat) (e : TypeId) (f : β → List Pr) (Φ : List β → Prop) (qs : List Pr) : Res where
  blk := some b
  new := true
  h M w := ∃ st : List β, Φ st ∧ (cellsRes true b e ((st.map f).flatten ++ qs)).h M w
  st M w M' w' he hk h := let ⟨st, h1, h2⟩ := h; ⟨st, h1, (cellsRes true b e ((st.map f).flatten ++ qs)).st M w M' w' he hk h2⟩
theorem St.openL (j : Nat) (hj : rs[j]? = some (relRes b e f Φ qs)) {a : Act} {w : World} (h : St n E (Hp M0 w0 S rs) a w) :
    ∃ st : List β, Φ st ∧ St n E (Hp M0 w0 S (rs.set j (cellsRes true b e ((st.map f).flatten ++ qs)))) a w := by
  obtain ⟨M, h1, h2, h3, h4⟩ := h
  have h4 : HpH M0 w0 S rs M w := h4
  obtain ⟨st, hp, h8⟩ := (h4.hold _ (List.mem_of_getElem? hj)).1
  exact ⟨st, hp, M, h1, h2, h3, h4.swap1 hj rfl rfl h8⟩
theorem Tr.openL {Q : Exit → Act → World → Prop} {c : Code} (j : Nat) (hj : rs[j]? = some (relRes b e f Φ qs))
    (k : ∀ st : List β, Φ st → Tr P n E (Hp M0 w0 S (rs.set j (cellsRes true b e ((st.map f).flatten ++ qs)))) c Q) : Tr P n E (Hp M0 w0 S rs) c Q :=
  fun a w hs => let ⟨st, h1, h2⟩ := hs.openL j hj; k st h1 a w h2
theorem Fin.openL {Q : Exit → Act → World → Prop} {x : Exit} (j : Nat) (hj : rs[j]? = some (relRes b e f Φ qs))
    (k : ∀ st : List β, Φ st → Fin n E (Hp M0 w0 S (rs.set j (cellsRes true b e ((st.map f).flatten ++ qs)))) Q x) : Fin n E (Hp M0 w0 S rs) Q x :=
  fun a w hs => let ⟨st, h1, h2⟩ := hs.openL j hj; k st h1 a w h2
theorem TO.openL {Q : Exit → Act → World → Prop} {ops : Array Oper} {r : List Oper} (j : Nat) (hj : rs[j]? = some (relRes b e f Φ qs))
    (k : ∀ st : List β, Φ st → TO P n ops r E (Hp M0 w0 S (rs.set j (cellsRes true b e ((st.map f).flatten ++ qs)))) Q) : TO P n ops r E (Hp M0 w0 S rs) Q :=
  fun m hl a w hs => let ⟨st, h1, h2⟩ := hs.openL j hj; k st h1 m hl a w h2
theorem St.closeL {st : List β} (j : Nat) (hj : rs[j]? = some (cellsRes true b e ((st.map f).flatten ++ qs))) (hp : Φ st) {a : Act} {w : World} (h : St n E (Hp M0 w0 S rs) a w) : St n E (Hp M0 w0 S (rs.set j (relRes b e f Φ qs))) a w := by
  obtain ⟨M, h1, h2, h3, h4⟩ := h
  have h4 : HpH M0 w0 S rs M w := h4
  exact ⟨M, h1, h2, h3, h4.swap1 hj rfl rfl ⟨st, hp, (h4.hold _ (List.mem_of_getElem? hj)).1⟩⟩
theorem Tr.closeL {Q : Exit → Act → World → Prop} {c : Code} {st : List β} (Φ : List β → Prop) (j : Nat) (hj : rs[j]? = some (cellsRes true b e ((st.map f).flatten ++ qs))) (hp : Φ st)
    (k : Tr P n E (Hp M0 w0 S (rs.set j (relRes b e f Φ qs))) c Q) : Tr P n E (Hp M0 w0 S rs) c Q := Tr.conv (fun _ _ hs => hs.closeL j hj hp) k
theorem Fin.closeL {Q : Exit → Act → World → Prop} {x : Exit} {st : List β} (Φ : List β → Prop) (j : Nat) (hj : rs[j]? = some (cellsRes true b e ((st.map f).flatten ++ qs))) (hp : Φ st)
    (k : Fin n E (Hp M0 w0 S (rs.set j (relRes b e f Φ qs))) Q x) : Fin n E (Hp M0 w0 S rs) Q x := Fin.conv (fun _ _ hs => hs.closeL j hj hp) k
instance (priority := 300) nrm_nott (b : Bool) (p : Prop) [h : Nrm b false p] : Nrm (!b) true p := ⟨fun e => h.nrm (by simpa using e)⟩
instance (priority := 300) nrm_notf (b : Bool) (p : Prop) [h : Nrm b true p] : Nrm (!b) false p := ⟨fun e => h.nrm (by simpa using e)⟩
end
end Cp
namespace Cp
open Go.Sort

section
variable {β : Type} [Inhabited β] {c : β × β → Int} {st : List β} {a b i j : Int}
def ltc (c : β × β → Int) (x y : β) : Bool := decide (c (x, y) < 0)
theorem gx (h : i.toNat < st.length) : st.toArray[i.toNat]! = st[i.toNat] := by simp [h]
theorem sw (hi : i.toNat < st.length) (hj : j.toNat < st.length) : ((st.set i.toNat (st[j.toNat]'hj)).set j.toNat (st[i.toNat]'hi)).toArray = swp st.toArray i.toNat j.toNat := by
  unfold swp
  rw [gx hi, gx hj]
  simp [Array.setIfInBounds_def, hi, hj]
omit [Inhabited β] in
theorem lt_yes {x y : β} (h : c (x, y) < 0) : ltc c x y = true := decide_eq_true h
omit [Inhabited β] in
theorem lt_no {x y : β} (h : ¬ c (x, y) < 0) : ltc c x y = false := decide_eq_false h

theorem ins_go (h0 : 0 ≤ a) (ha : a < j) {k : Int} (hk : k = j - 1) (hj : j.toNat < st.length) (hj' : k.toNat < st.length) (hc : c (st[j.toNat]'hj, st[k.toNat]'hj') < 0) :
    insInner (ltc c) a.toNat k.toNat ((st.set j.toNat (st[k.toNat]'hj')).set k.toNat (st[j.toNat]'hj)).toArray = insInner (ltc c) a.toNat j.toNat st.toArray := by
  rw [sw hj hj']
  obtain ⟨m, hm⟩ : ∃ m, j.toNat = m + 1 := ⟨j.toNat - 1, by omega⟩
  have hk2 : k.toNat = m := by omega
  have e : ltc c (st.toArray[m + 1]!) (st.toArray[m]!) = true := by rw [← hm, ← hk2, gx hj, gx hj']; exact lt_yes hc
  rw [hm, hk2]
  conv => rhs; rw [insInner]
  rw [if_pos (by rw [e]; simp; omega)]
theorem ins_stopA (h0 : 0 ≤ a) (h : ¬ a < j) : st.toArray = insInner (ltc c) a.toNat j.toNat st.toArray := by
  cases hm : j.toNat with
  | zero => rfl
  | succ m => rw [insInner, if_neg (by simp; omega)]
theorem ins_stopB (h0 : 0 ≤ a) (ha : a < j) {k : Int} (hk : k = j - 1) (hj : j.toNat < st.length) (hj' : k.toNat < st.length) (hc : ¬ c (st[j.toNat]'hj, st[k.toNat]'hj') < 0) : st.toArray = insInner (ltc c) a.toNat j.toNat st.toArray := by
  obtain ⟨m, hm⟩ : ∃ m, j.toNat = m + 1 := ⟨j.toNat - 1, by omega⟩
  have hk2 : k.toNat = m := by omega
  have e : ltc c (st.toArray[m + 1]!) (st.toArray[m]!) = false := by rw [← hm, ← hk2, gx hj, gx hj']; exact lt_no hc
  rw [hm, insInner, if_neg (by rw [e]; simp)]
theorem inso_go {d : Array β} (h0 : 0 ≤ i) (h : i < b) : insOuter (ltc c) a.toNat b.toNat (i + 1).toNat (insInner (ltc c) a.toNat i.toNat d) = insOuter (ltc c) a.toNat b.toNat i.toNat d := by
  conv => rhs; rw [insOuter]
  rw [if_pos (by omega), show (i + 1).toNat = i.toNat + 1 by omega]
theorem inso_stop {d : Array β} (h0 : 0 ≤ i) (h : ¬ i < b) : insOuter (ltc c) a.toNat b.toNat i.toNat d = d := by
  rw [insOuter, if_neg (by omega)]
theorem inso_start {d : Array β} (h0 : 0 ≤ a) : insOuter (ltc c) a.toNat b.toNat (a + 1).toNat d = insertionSort (ltc c) d a.toNat b.toNat := by
  unfold insertionSort; rw [show (a + 1).toNat = a.toNat + 1 by omega]

variable {hi F r : Int}
theorem sift_end {d : Array β} (h0 : 0 ≤ r) (h : hi ≤ 2 * r + 1) : d = siftDown (ltc c) hi.toNat F.toNat r.toNat d := by
  rw [siftDown, dif_pos (by omega)]
theorem sift_stopLa {x y : Int} (h0 : 0 ≤ r) (hF : 0 ≤ F) (h : ¬ hi ≤ 2 * r + 1) (h2 : ¬ 2 * r + 1 + 1 < hi) (hx : x = F + r) (hy : y = F + (2 * r + 1)) (hxl : x.toNat < st.length) (hyl : y.toNat < st.length) (hc : ¬ c (st[x.toNat]'hxl, st[y.toNat]'hyl) < 0) :
    st.toArray = siftDown (ltc c) hi.toNat F.toNat r.toNat st.toArray := by
  have e : ltc c (st.toArray[F.toNat + r.toNat]!) (st.toArray[F.toNat + (2 * r.toNat + 1)]!) = false := by
    rw [show F.toNat + r.toNat = x.toNat by omega, show F.toNat + (2 * r.toNat + 1) = y.toNat by omega, gx hxl, gx hyl]; exact lt_no hc
  rw [siftDown, dif_neg (by omega), if_neg (by simp; omega), if_pos (by rw [e]; rfl)]
theorem sift_goLa {x y : Int} (h0 : 0 ≤ r) (hF : 0 ≤ F) (h : ¬ hi ≤ 2 * r + 1) (h2 : ¬ 2 * r + 1 + 1 < hi) (hx : x = F + r) (hy : y = F + (2 * r + 1)) (hxl : x.toNat < st.length) (hyl : y.toNat < st.length) (hc : c (st[x.toNat]'hxl, st[y.toNat]'hyl) < 0) :
    siftDown (ltc c) hi.toNat F.toNat (2 * r + 1).toNat ((st.set x.toNat (st[y.toNat]'hyl)).set y.toNat (st[x.toNat]'hxl)).toArray = siftDown (ltc c) hi.toNat F.toNat r.toNat st.toArray := by
  have e : ltc c (st.toArray[F.toNat + r.toNat]!) (st.toArray[F.toNat + (2 * r.toNat + 1)]!) = true := by
    rw [show F.toNat + r.toNat = x.toNat by omega, show F.toNat + (2 * r.toNat + 1) = y.toNat by omega, gx hxl, gx hyl]; exact lt_yes hc
  rw [sw hxl hyl]
  conv => rhs; rw [siftDown]
  rw [dif_neg (by omega), if_neg (by simp; omega), if_neg (by rw [e]; simp)]
  rw [show (2 * r + 1).toNat = 2 * r.toNat + 1 by omega, show F.toNat + r.toNat = x.toNat by omega, show F.toNat + (2 * r.toNat + 1) = y.toNat by omega]
theorem sift_stopLb {x y u v : Int} (h0 : 0 ≤ r) (hF : 0 ≤ F) (h : ¬ hi ≤ 2 * r + 1) (hu : u = F + (2 * r + 1)) (hv : v = F + (2 * r + 1) + 1) (hul : u.toNat < st.length) (hvl : v.toNat < st.length) (h2 : ¬ c (st[u.toNat]'hul, st[v.toNat]'hvl) < 0)
    (hx : x = F + r) (hy : y = F + (2 * r + 1)) (hxl : x.toNat < st.length) (hyl : y.toNat < st.length) (hc : ¬ c (st[x.toNat]'hxl, st[y.toNat]'hyl) < 0) : st.toArray = siftDown (ltc c) hi.toNat F.toNat r.toNat st.toArray := by
  have e : ltc c (st.toArray[F.toNat + r.toNat]!) (st.toArray[F.toNat + (2 * r.toNat + 1)]!) = false := by
    rw [show F.toNat + r.toNat = x.toNat by omega, show F.toNat + (2 * r.toNat + 1) = y.toNat by omega, gx hxl, gx hyl]; exact lt_no hc
  have e2 : ltc c (st.toArray[F.toNat + (2 * r.toNat + 1)]!) (st.toArray[F.toNat + (2 * r.toNat + 1) + 1]!) = false := by
    rw [show F.toNat + (2 * r.toNat + 1) + 1 = v.toNat by omega, show F.toNat + (2 * r.toNat + 1) = u.toNat by omega, gx hul, gx hvl]; exact lt_no h2
  rw [siftDown, dif_neg (by omega), if_neg (by rw [e2]; simp), if_pos (by rw [e]; rfl)]
theorem sift_goLb {x y u v : Int} (h0 : 0 ≤ r) (hF : 0 ≤ F) (h : ¬ hi ≤ 2 * r + 1) (hu : u = F + (2 * r + 1)) (hv : v = F + (2 * r + 1) + 1) (hul : u.toNat < st.length) (hvl : v.toNat < st.length) (h2 : ¬ c (st[u.toNat]'hul, st[v.toNat]'hvl) < 0)
    (hx : x = F + r) (hy : y = F + (2 * r + 1)) (hxl : x.toNat < st.length) (hyl : y.toNat < st.length) (hc : c (st[x.toNat]'hxl, st[y.toNat]'hyl) < 0) :
    siftDown (ltc c) hi.toNat F.toNat (2 * r + 1).toNat ((st.set x.toNat (st[y.toNat]'hyl)).set y.toNat (st[x.toNat]'hxl)).toArray = siftDown (ltc c) hi.toNat F.toNat r.toNat st.toArray := by
  have e : ltc c (st.toArray[F.toNat + r.toNat]!) (st.toArray[F.toNat + (2 * r.toNat + 1)]!) = true := by
    rw [show F.toNat + r.toNat = x.toNat by omega, show F.toNat + (2 * r.toNat + 1) = y.toNat by omega, gx hxl, gx hyl]; exact lt_yes hc
  have e2 : ltc c (st.toArray[F.toNat + (2 * r.toNat + 1)]!) (st.toArray[F.toNat + (2 * r.toNat + 1) + 1]!) = false := by
    rw [show F.toNat + (2 * r.toNat + 1) + 1 = v.toNat by omega, show F.toNat + (2 * r.toNat + 1) = u.toNat by omega, gx hul, gx hvl]; exact lt_no h2
  rw [sw hxl hyl]
  conv => rhs; rw [siftDown]
  rw [dif_neg (by omega), if_neg (by rw [e2]; simp), if_neg (by rw [e]; simp)]
  rw [show (2 * r + 1).toNat = 2 * r.toNat + 1 by omega, show F.toNat + r.toNat = x.toNat by omega, show F.toNat + (2 * r.toNat + 1) = y.toNat by omega]
theorem sift_stopR {x y u v : Int} (h0 : 0 ≤ r) (hF : 0 ≤ F) (h : 2 * r + 1 + 1 < hi) (hu : u = F + (2 * r + 1)) (hv : v = F + (2 * r + 1) + 1) (hul : u.toNat < st.length) (hvl : v.toNat < st.length) (h2 : c (st[u.toNat]'hul, st[v.toNat]'hvl) < 0)
    (hx : x = F + r) (hy : y = F + (2 * r + 1 + 1)) (hxl : x.toNat < st.length) (hyl : y.toNat < st.length) (hc : ¬ c (st[x.toNat]'hxl, st[y.toNat]'hyl) < 0) : st.toArray = siftDown (ltc c) hi.toNat F.toNat r.toNat st.toArray := by
  have e : ltc c (st.toArray[F.toNat + r.toNat]!) (st.toArray[F.toNat + (2 * r.toNat + 2)]!) = false := by
    rw [show F.toNat + r.toNat = x.toNat by omega, show F.toNat + (2 * r.toNat + 2) = y.toNat by omega, gx hxl, gx hyl]; exact lt_no hc
  have e2 : ltc c (st.toArray[F.toNat + (2 * r.toNat + 1)]!) (st.toArray[F.toNat + (2 * r.toNat + 1) + 1]!) = true := by
    rw [show F.toNat + (2 * r.toNat + 1) + 1 = v.toNat by omega, show F.toNat + (2 * r.toNat + 1) = u.toNat by omega, gx hul, gx hvl]; exact lt_yes h2
  rw [siftDown, dif_neg (by omega), if_pos (by rw [e2]; simp; omega), if_pos (by rw [e]; rfl)]
theorem sift_goR {x y u v : Int} (h0 : 0 ≤ r) (hF : 0 ≤ F) (h : 2 * r + 1 + 1 < hi) (hu : u = F + (2 * r + 1)) (hv : v = F + (2 * r + 1) + 1) (hul : u.toNat < st.length) (hvl : v.toNat < st.length) (h2 : c (st[u.toNat]'hul, st[v.toNat]'hvl) < 0)
    (hx : x = F + r) (hy : y = F + (2 * r + 1 + 1)) (hxl : x.toNat < st.length) (hyl : y.toNat < st.length) (hc : c (st[x.toNat]'hxl, st[y.toNat]'hyl) < 0) :
    siftDown (ltc c) hi.toNat F.toNat (2 * r + 1 + 1).toNat ((st.set x.toNat (st[y.toNat]'hyl)).set y.toNat (st[x.toNat]'hxl)).toArray = siftDown (ltc c) hi.toNat F.toNat r.toNat st.toArray := by
  have e : ltc c (st.toArray[F.toNat + r.toNat]!) (st.toArray[F.toNat + (2 * r.toNat + 2)]!) = true := by
    rw [show F.toNat + r.toNat = x.toNat by omega, show F.toNat + (2 * r.toNat + 2) = y.toNat by omega, gx hxl, gx hyl]; exact lt_yes hc
  have e2 : ltc c (st.toArray[F.toNat + (2 * r.toNat + 1)]!) (st.toArray[F.toNat + (2 * r.toNat + 1) + 1]!) = true := by
    rw [show F.toNat + (2 * r.toNat + 1) + 1 = v.toNat by omega, show F.toNat + (2 * r.toNat + 1) = u.toNat by omega, gx hul, gx hvl]; exact lt_yes h2
  rw [sw hxl hyl]
  conv => rhs; rw [siftDown]
  rw [dif_neg (by omega), if_pos (by rw [e2]; simp; omega), if_neg (by rw [e]; simp), dif_pos (by omega)]
  rw [show (2 * r + 1 + 1).toNat = 2 * r.toNat + 2 by omega, show F.toNat + r.toNat = x.toNat by omega, show F.toNat + (2 * r.toNat + 2) = y.toNat by omega]
theorem build_go {d : Array β} (h0 : 0 ≤ i) : heapBuild (ltc c) hi.toNat F.toNat (i - 1 + 1).toNat (siftDown (ltc c) hi.toNat F.toNat i.toNat d) = heapBuild (ltc c) hi.toNat F.toNat (i + 1).toNat d := by
  rw [show (i + 1).toNat = i.toNat + 1 by omega, show (i - 1 + 1).toNat = i.toNat by omega]; rfl
theorem build_end {d : Array β} (h0 : ¬ 0 ≤ i) : heapBuild (ltc c) hi.toNat F.toNat (i + 1).toNat d = d := by
  rw [show (i + 1).toNat = 0 by omega]; rfl
theorem pop_go {d : Array β} (h0 : 0 ≤ i) : heapPop (ltc c) F.toNat (i - 1 + 1).toNat (siftDown (ltc c) i.toNat F.toNat (0 : Int).toNat (swp d F.toNat (F.toNat + i.toNat))) = heapPop (ltc c) F.toNat (i + 1).toNat d := by
  rw [show (i + 1).toNat = i.toNat + 1 by omega, show (i - 1 + 1).toNat = i.toNat by omega]; rfl
theorem pop_end {d : Array β} (h0 : ¬ 0 ≤ i) : heapPop (ltc c) F.toNat (i + 1).toNat d = d := by
  rw [show (i + 1).toNat = 0 by omega]; rfl

theorem heap_half (h0 : 0 ≤ a) (hab : a ≤ b) (hb : b ≤ 1000000) : Go.IntKind.i64.wrap ((b - a - 1).tdiv 2) = (((b.toNat - a.toNat - 1) / 2 : Nat) : Int) := by
  have : (b - a - 1).tdiv 2 = (((b.toNat - a.toNat - 1) / 2 : Nat) : Int) := by
    rcases Int.lt_or_le (b - a - 1) 0 with h | h
    · have e : b - a - 1 = -1 := by omega
      rw [e, show b.toNat - a.toNat - 1 = 0 by omega]; rfl
    · rw [Int.tdiv_eq_ediv_of_nonneg h]; omega
  rw [this, Go.IntWalk.i64_in _ ⟨by omega, by omega⟩]
theorem heap_holds (hw : SWO (ltc c)) (d : Array β) (h0 : 0 ≤ a) (hab : a ≤ b) (hb : b.toNat ≤ d.size) :
    PermIn a.toNat b.toNat d (heapPop (ltc c) a.toNat (b - a).toNat (heapBuild (ltc c) (b - a).toNat a.toNat ((b.toNat - a.toNat - 1) / 2 + 1) d)) ∧ SortedIn (ltc c) a.toNat b.toNat (heapPop (ltc c) a.toNat (b - a).toNat (heapBuild (ltc c) (b - a).toNat a.toNat ((b.toNat - a.toNat - 1) / 2 + 1) d)) := by
  have := heapSort_holds hw d a.toNat b.toNat (by omega) hb
  unfold heapSort at this
  rw [show (b - a).toNat = b.toNat - a.toNat by omega]
  exact this

theorem quart {n : Int} (h0 : 0 ≤ n) (h1 : n ≤ 1000000) : 0 ≤ Go.IntKind.i64.wrap (n.tdiv 4) ∧ 4 * Go.IntKind.i64.wrap (n.tdiv 4) ≤ n ∧ n < 4 * Go.IntKind.i64.wrap (n.tdiv 4) + 4 := by
  have : n.tdiv 4 = n / 4 := Int.tdiv_eq_ediv_of_nonneg h0
  rw [this, Go.IntWalk.i64_in _ ⟨by omega, by omega⟩]
  omega

theorem su_go {p : β → Bool} (h0 : 0 ≤ i) (hij : i ≤ j) (hl : i.toNat < st.length) (hp : p (st[i.toNat]'hl) = true) : scanUp p st.toArray j.toNat (i + 1).toNat = scanUp p st.toArray j.toNat i.toNat := by
  conv => rhs; rw [scanUp]
  rw [if_pos (by rw [gx hl, hp]; simp; omega), show (i + 1).toNat = i.toNat + 1 by omega]
theorem su_stopA {p : β → Bool} {d : Array β} (hj : 0 ≤ j) (hij : ¬ i ≤ j) : scanUp p d j.toNat i.toNat = i.toNat := by
  rw [scanUp, if_neg (by simp; omega)]
theorem su_stopB {p : β → Bool} (hl : i.toNat < st.length) (hp : p (st[i.toNat]'hl) = false) : scanUp p st.toArray j.toNat i.toNat = i.toNat := by
  rw [scanUp, if_neg (by rw [gx hl, hp]; simp)]
theorem sd_go {p : β → Bool} (h0 : 1 ≤ i) (hij : i ≤ j) (hl : j.toNat < st.length) (hp : p (st[j.toNat]'hl) = true) : scanDown p st.toArray i.toNat (j - 1).toNat = scanDown p st.toArray i.toNat j.toNat := by
  obtain ⟨m, hm⟩ : ∃ m, j.toNat = m + 1 := ⟨j.toNat - 1, by omega⟩
  have hp' : p (st.toArray[m + 1]!) = true := by rw [← hm, gx hl]; exact hp
  rw [show (j - 1).toNat = m by omega, hm]
  conv => rhs; rw [scanDown]
  rw [if_pos (by rw [hp']; simp; omega)]
theorem sd_stopA {p : β → Bool} {d : Array β} (h0 : 0 ≤ j) (hij : ¬ i ≤ j) : scanDown p d i.toNat j.toNat = j.toNat := by
  cases hm : j.toNat with
  | zero => rfl
  | succ m => rw [scanDown, if_neg (by simp; omega)]
theorem sd_stopB {p : β → Bool} (hl : j.toNat < st.length) (hp : p (st[j.toNat]'hl) = false) : scanDown p st.toArray i.toNat j.toNat = j.toNat := by
  cases hm : j.toNat with
  | zero => rfl
  | succ m =>
    have hp' : p (st.toArray[m + 1]!) = false := by rw [← hm, gx hl]; exact hp
    rw [scanDown, if_neg (by rw [hp']; simp)]
abbrev pU (c : β × β → Int) (d : Array β) (a : Int) : β → Bool := fun x => ltc c x d[a.toNat]!
abbrev pD (c : β × β → Int) (d : Array β) (a : Int) : β → Bool := fun x => !ltc c x d[a.toNat]!
abbrev qU (c : β × β → Int) (d : Array β) (a : Int) : β → Bool := fun x => !ltc c d[a.toNat]! x
abbrev qD (c : β × β → Int) (d : Array β) (a : Int) : β → Bool := fun x => ltc c d[a.toNat]! x
theorem pU_t (hi : i.toNat < st.length) (ha : a.toNat < st.length) (h : c (st[i.toNat]'hi, st[a.toNat]'ha) < 0) : pU c st.toArray a (st[i.toNat]'hi) = true := by show ltc c _ _ = true; rw [gx ha]; exact lt_yes h
theorem pU_f (hi : i.toNat < st.length) (ha : a.toNat < st.length) (h : ¬ c (st[i.toNat]'hi, st[a.toNat]'ha) < 0) : pU c st.toArray a (st[i.toNat]'hi) = false := by show ltc c _ _ = false; rw [gx ha]; exact lt_no h
theorem pD_t (hi : i.toNat < st.length) (ha : a.toNat < st.length) (h : ¬ c (st[i.toNat]'hi, st[a.toNat]'ha) < 0) : pD c st.toArray a (st[i.toNat]'hi) = true := by show (!ltc c _ _) = true; rw [gx ha, lt_no h]; rfl
theorem pD_f (hi : i.toNat < st.length) (ha : a.toNat < st.length) (h : c (st[i.toNat]'hi, st[a.toNat]'ha) < 0) : pD c st.toArray a (st[i.toNat]'hi) = false := by show (!ltc c _ _) = false; rw [gx ha, lt_yes h]; rfl
theorem qU_t (hi : i.toNat < st.length) (ha : a.toNat < st.length) (h : ¬ c (st[a.toNat]'ha, st[i.toNat]'hi) < 0) : qU c st.toArray a (st[i.toNat]'hi) = true := by show (!ltc c _ _) = true; rw [gx ha, lt_no h]; rfl
theorem qU_f (hi : i.toNat < st.length) (ha : a.toNat < st.length) (h : c (st[a.toNat]'ha, st[i.toNat]'hi) < 0) : qU c st.toArray a (st[i.toNat]'hi) = false := by show (!ltc c _ _) = false; rw [gx ha, lt_yes h]; rfl
theorem qD_t (hi : i.toNat < st.length) (ha : a.toNat < st.length) (h : c (st[a.toNat]'ha, st[i.toNat]'hi) < 0) : qD c st.toArray a (st[i.toNat]'hi) = true := by show ltc c _ _ = true; rw [gx ha]; exact lt_yes h
theorem qD_f (hi : i.toNat < st.length) (ha : a.toNat < st.length) (h : ¬ c (st[a.toNat]'ha, st[i.toNat]'hi) < 0) : qD c st.toArray a (st[i.toNat]'hi) = false := by show ltc c _ _ = false; rw [gx ha]; exact lt_no h

abbrev PLp (c : β × β → Int) (a i j : Int) (d : Array β) : Nat × Array β := partLoop (ltc c) a.toNat i.toNat j.toNat d
abbrev PLe (c : β × β → Int) (a i j : Int) (d : Array β) : Nat × Array β := partEqLoop (ltc c) a.toNat i.toNat j.toNat d
theorem part_stop {i2 j2 : Int} (h1 : i2.toNat = scanUp (pU c st.toArray a) st.toArray j.toNat i.toNat) (h2 : j2.toNat = scanDown (pD c st.toArray a) st.toArray i2.toNat j.toNat) (h0 : 0 ≤ j2) (h : i2 > j2) : PLp c a i j st.toArray = (j2.toNat, st.toArray) := by
  have h := partLoop_eq (ltc c) a.toNat i.toNat j.toNat st.toArray
  rw [← h1, ← h2, if_pos (by omega)] at h
  exact h
theorem part_go {i2 j2 : Int} (h1 : i2.toNat = scanUp (pU c st.toArray a) st.toArray j.toNat i.toNat) (h2 : j2.toNat = scanDown (pD c st.toArray a) st.toArray i2.toNat j.toNat) (h0 : 0 ≤ i2) (h : ¬ i2 > j2) (hi : i2.toNat < st.length) (hj : j2.toNat < st.length) :
    PLp c a (i2 + 1) (j2 - 1) ((st.set i2.toNat (st[j2.toNat]'hj)).set j2.toNat (st[i2.toNat]'hi)).toArray = PLp c a i j st.toArray := by
  have h := partLoop_eq (ltc c) a.toNat i.toNat j.toNat st.toArray
  rw [← h1, ← h2, if_neg (by omega)] at h
  unfold PLp
  rw [h, sw hi hj, show (i2 + 1).toNat = i2.toNat + 1 by omega, show (j2 - 1).toNat = j2.toNat - 1 by omega]
theorem peq_stop {i2 j2 : Int} (h1 : i2.toNat = scanUp (qU c st.toArray a) st.toArray j.toNat i.toNat) (h2 : j2.toNat = scanDown (qD c st.toArray a) st.toArray i2.toNat j.toNat) (h0 : 0 ≤ j2) (h : i2 > j2) : PLe c a i j st.toArray = (i2.toNat, st.toArray) := by
  have h := partEqLoop_eq (ltc c) a.toNat i.toNat j.toNat st.toArray
  rw [← h1, ← h2, if_pos (by omega)] at h
  exact h
theorem peq_go {i2 j2 : Int} (h1 : i2.toNat = scanUp (qU c st.toArray a) st.toArray j.toNat i.toNat) (h2 : j2.toNat = scanDown (qD c st.toArray a) st.toArray i2.toNat j.toNat) (h0 : 0 ≤ i2) (h : ¬ i2 > j2) (hi : i2.toNat < st.length) (hj : j2.toNat < st.length) :
    PLe c a (i2 + 1) (j2 - 1) ((st.set i2.toNat (st[j2.toNat]'hj)).set j2.toNat (st[i2.toNat]'hi)).toArray = PLe c a i j st.toArray := by
  have h := partEqLoop_eq (ltc c) a.toNat i.toNat j.toNat st.toArray
  rw [← h1, ← h2, if_neg (by omega)] at h
  unfold PLe
  rw [h, sw hi hj, show (i2 + 1).toNat = i2.toNat + 1 by omega, show (j2 - 1).toNat = j2.toNat - 1 by omega]

variable {lt : β → β → Bool} {a0 b0 m n : Nat} {l s s' : Array β}
structure PS (lt : β → β → Bool) (a0 b0 a b : Nat) (l s : Array β) : Prop where
  ha : a0 ≤ a
  hab : a ≤ b
  hb : b ≤ b0
  hp : PermIn a0 b0 l s
  below : Below lt a b s
  out : ∀ i j, a0 ≤ i → i < j → j < b0 → (i < a ∨ b ≤ j) → lt s[j]! s[i]! = false
theorem PS.init (h : a0 ≤ b0) (hB : Below lt a0 b0 l) : PS lt a0 b0 a0 b0 l l := ⟨Nat.le_refl _, h, Nat.le_refl _, permIn_refl _ _ _, hB, fun _ _ h1 _ h3 h4 => by omega⟩
theorem PS.perm (h : PS lt a0 b0 m n l s) (hs : b0 ≤ l.size) (hq : PermIn m n s s') : PS lt a0 b0 m n l s' := by
  have hsz : s.size = l.size := h.hp.1
  have hns : n ≤ s.size := by have := h.hb; omega
  refine ⟨h.ha, h.hab, h.hb, permIn_trans _ _ _ _ _ h.hp (permIn_mono _ _ _ _ _ _ h.ha h.hb (by omega) hq), Below.permA permIn_all hns h.below hq, fun i j h1 h2 h3 h4 => ?_⟩
  have hm := h.hab
  by_cases hi : m ≤ i ∧ i < n
  · have hj : n ≤ j := by omega
    rw [hq.2.1 j (.inr hj)]
    exact permIn_all s s' m n (fun x => lt s[j]! x = false) hns hq (fun k hk1 hk2 => h.out k j (by have := h.ha; omega) (by omega) h3 (.inr hj)) i hi.1 hi.2
  · rw [hq.2.1 i (by omega)]
    by_cases hj : m ≤ j ∧ j < n
    · exact permIn_all s s' m n (fun x => lt x s[i]! = false) hns hq (fun k hk1 hk2 => h.out i k h1 (by omega) (by have := h.hb; omega) (.inl (by omega))) j hj.1 hj.2
    · rw [hq.2.1 j (by omega)]; exact h.out i j h1 h2 h3 h4
theorem PS.done (h : PS lt a0 b0 m n l s) (hs : SortedIn lt m n s) : PermIn a0 b0 l s ∧ SortedIn lt a0 b0 s := by
  refine ⟨h.hp, fun i j h1 h2 h3 => ?_⟩
  by_cases hh : i < m ∨ n ≤ j
  · exact h.out i j h1 h2 h3 hh
  · exact hs i j (by omega) h2 (by omega)
theorem PS.eq (hw : SWO lt) (h : PS lt a0 b0 m n l s) (hs : b0 ≤ l.size) {pv : β} {k : Nat} (hm : 0 < m) (hpv : lt s[m - 1]! pv = false) (hk : m < k) (hkn : k ≤ n) (hq : PermIn m n s s') (h1 : ∀ i, m ≤ i → i < k → lt pv s'[i]! = false) (h2 : ∀ i, k ≤ i → i < n → lt pv s'[i]! = true) :
    PS lt a0 b0 k n l s' := by
  have h' := h.perm hs hq
  have hle : ∀ j, m ≤ j → j < n → lt s'[j]! pv = false := by
    intro j hj1 hj2
    by_cases hjk : k ≤ j
    · exact hw.asym (h2 j hjk hj2)
    · have hb := h'.below
      rcases hb with hb | hb
      · omega
      · have hb := hb j hj1 hj2
        rw [hq.2.1 (m - 1) (.inl (by omega))] at hb
        exact hw.ntrans _ _ _ hb hpv
  have key : ∀ i j, m ≤ i → i < k → m ≤ j → j < n → lt s'[j]! s'[i]! = false := fun i j ha hb hc hd => hw.ntrans _ _ _ (hle j hc hd) (h1 i ha hb)
  refine ⟨by have := h.ha; omega, hkn, h.hb, h'.hp, .inr fun i hi1 hi2 => key (k - 1) i (by omega) (by omega) (by omega) hi2, fun i j g1 g2 g3 g4 => ?_⟩
  by_cases hh : i < m ∨ n ≤ j
  · exact h'.out i j g1 g2 g3 hh
  · exact key i j (by omega) (by omega) (by omega) (by omega)
/-- What a partition yields. -/
structure Parted (lt : β → β → Bool) (m n k : Nat) (s : Array β) : Prop where
  h1 : m ≤ k
  h2 : k < n
  lo : ∀ i, m ≤ i → i < k → lt s[i]! s[k]! = true
  up : ∀ i, k < i → i < n → lt s[i]! s[k]! = false
theorem PS.left (hw : SWO lt) {k : Nat} (h : PS lt a0 b0 m n l s) (hs : b0 ≤ l.size) (hp : Parted lt m n k s) (hq : PermIn m k s s') (hso : SortedIn lt m k s') : PS lt a0 b0 (k + 1) n l s' := by
  obtain ⟨h1, h2, lo, up⟩ := hp
  have hsz : s.size = l.size := h.hp.1
  have hks : k ≤ s.size := by have := h.hb; omega
  have hq2 : PermIn m n s s' := permIn_mono _ _ _ _ _ _ (Nat.le_refl _) (by omega) (by have := h.hb; omega) hq
  have h' := h.perm hs hq2
  have ek : s'[k]! = s[k]! := hq.2.1 k (.inr (Nat.le_refl _))
  have lo' : ∀ i, m ≤ i → i < k → lt s'[i]! s[k]! = true := fun i g1 g2 => permIn_all s s' m k (fun x => lt x s[k]! = true) hks hq lo i g1 g2
  have up' : ∀ i, k < i → i < n → lt s'[i]! s[k]! = false := fun i g1 g2 => by rw [hq.2.1 i (.inr (by omega))]; exact up i g1 g2
  refine ⟨by have := h.ha; omega, by omega, h.hb, h'.hp, .inr fun i g1 g2 => ?_, fun i j g1 g2 g3 g4 => ?_⟩
  · rw [show k + 1 - 1 = k by omega, ek]; exact up' i (by omega) g2
  · by_cases hh : i < m ∨ n ≤ j
    · exact h'.out i j g1 g2 g3 hh
    · rcases Nat.lt_trichotomy i k with hik | hik | hik
      · rcases Nat.lt_trichotomy j k with hjk | hjk | hjk
        · exact hso i j (by omega) g2 hjk
        · subst hjk; rw [ek]; exact hw.asym (lo' i (by omega) hik)
        · exact hw.ntrans _ _ _ (up' j hjk (by omega)) (hw.asym (lo' i (by omega) hik))
      · subst hik; rw [ek]; exact up' j g2 (by omega)
      · omega
theorem PS.right (hw : SWO lt) {k : Nat} (h : PS lt a0 b0 m n l s) (hs : b0 ≤ l.size) (hp : Parted lt m n k s) (hq : PermIn (k + 1) n s s') (hso : SortedIn lt (k + 1) n s') : PS lt a0 b0 m k l s' := by
  obtain ⟨h1, h2, lo, up⟩ := hp
  have hsz : s.size = l.size := h.hp.1
  have hns : n ≤ s.size := by have := h.hb; omega
  have hq2 : PermIn m n s s' := permIn_mono _ _ _ _ _ _ (by omega) (Nat.le_refl _) hns hq
  have h' := h.perm hs hq2
  have ek : s'[k]! = s[k]! := hq.2.1 k (.inl (by omega))
  have lo' : ∀ i, m ≤ i → i < k → lt s'[i]! s[k]! = true := fun i g1 g2 => by rw [hq.2.1 i (.inl (by omega))]; exact lo i g1 g2
  have up' : ∀ i, k < i → i < n → lt s'[i]! s[k]! = false := fun i g1 g2 => permIn_all s s' (k + 1) n (fun x => lt x s[k]! = false) hns hq (fun i q1 q2 => up i (by omega) q2) i (by omega) g2
  refine ⟨h.ha, h1, by have := h.hb; omega, h'.hp, ?_, fun i j g1 g2 g3 g4 => ?_⟩
  · rcases h'.below with hb | hb
    · exact .inl hb
    · exact .inr fun i q1 q2 => hb i q1 (by omega)
  · by_cases hh : i < m ∨ n ≤ j
    · exact h'.out i j g1 g2 g3 hh
    · rcases Nat.lt_trichotomy i k with hik | hik | hik
      · rcases Nat.lt_trichotomy j k with hjk | hjk | hjk
        · omega
        · subst hjk; rw [ek]; exact hw.asym (lo' i (by omega) hik)
        · exact hw.ntrans _ _ _ (up' j hjk (by omega)) (hw.asym (lo' i (by omega) hik))
      · subst hik; rw [ek]; exact up' j g2 (by omega)
      · exact hso i j (by omega) g2 (by omega)
theorem PS.belowL {k : Nat} (h : PS lt a0 b0 m n l s) (hk : k ≤ n) : Below lt m k s := h.below.imp id fun hb i g1 g2 => hb i g1 (by omega)
theorem Parted.belowR {k : Nat} (hp : Parted lt m n k s) : Below lt (k + 1) n s := .inr fun i g1 g2 => by rw [show k + 1 - 1 = k by omega]; exact hp.up i (by omega) g2
/-- No later one of neighbours is less: ascending. -/
theorem sorted_of_adj (hw : SWO lt) (h : ∀ k, m < k → k < n → lt s[k]! s[k - 1]! = false) : SortedIn lt m n s := by
  intro i j h1 h2 h3
  obtain ⟨d, rfl⟩ : ∃ d, j = i + d + 1 := ⟨j - i - 1, by omega⟩
  induction d with
  | zero => exact h (i + 0 + 1) (by omega) h3
  | succ d ih => exact hw.ntrans _ _ _ (h (i + (d + 1) + 1) (by omega) h3) (by rw [show i + (d + 1) + 1 - 1 = i + d + 1 by omega]; exact ih (by omega) (by omega))
end

section
variable {β : Type} [Inhabited β] {c : β × β → Int} {st : List β}
def Adj (c : β × β → Int) (a b : Int) (l : List β) : Prop := ∀ k, a.toNat < k → k < b.toNat → ltc c l.toArray[k]! l.toArray[k - 1]! = false
theorem Adj.start (a : Int) (l : List β) (h0 : 0 ≤ a) : Adj c a (a + 1) l := fun k h1 h2 => by omega
theorem Adj.go {a i k : Int} (h : Adj c a i st) (h0 : 0 ≤ a) (ha : a < i) (hk : k = i - 1) (hi : i.toNat < st.length) (hk' : k.toNat < st.length) (hc : 0 ≤ c (st[i.toNat]'hi, st[k.toNat]'hk')) : Adj c a (i + 1) st := fun m h1 h2 => by
  rcases Nat.lt_or_ge m i.toNat with hm | hm
  · exact h m h1 hm
  · have e : m = i.toNat := by omega
    subst e
    rw [show i.toNat - 1 = k.toNat by omega, gx hi, gx hk']; exact lt_no (by omega)
theorem Adj.sorted {a b : Int} (hw : SWO (ltc c)) (h : Adj c a b st) : SortedIn (ltc c) a.toNat b.toNat st.toArray := sorted_of_adj hw h
end

section
variable {β : Type} [Inhabited β]
/-- Elements from a on, up to b, were exchanged among themselves. -/
def PermL (a b : Int) (l st : List β) : Prop := PermIn a.toNat b.toNat l.toArray st.toArray
/-- And are ascending there. -/
def SortL (c : β × β → Int) (a b : Int) (l st : List β) : Prop := PermIn a.toNat b.toNat l.toArray st.toArray ∧ SortedIn (ltc c) a.toNat b.toNat st.toArray
theorem PermL.len {a b : Int} {l st : List β} (h : PermL a b l st) : st.length = l.length := by have := h.1; simpa using this
theorem SortL.len {c : β × β → Int} {a b : Int} {l st : List β} (h : SortL c a b l st) : st.length = l.length := by have := h.1.1; simpa using this
def SiftL (c : β × β → Int) (hi first lo : Int) (l st : List β) : Prop := st.length = l.length ∧ st.toArray = siftDown (ltc c) hi.toNat first.toNat lo.toNat l.toArray
theorem SiftL.len {c : β × β → Int} {hi first lo : Int} {l st : List β} (h : SiftL c hi first lo l st) : st.length = l.length := h.1
abbrev PE (c : β × β → Int) (a b pv : Int) (l : List β) : Nat × Array β := partitionEqual (ltc c) l.toArray a.toNat b.toNat pv.toNat
abbrev PA (c : β × β → Int) (a b pv : Int) (l : List β) : Nat × Bool × Array β := partition (ltc c) l.toArray a.toNat b.toNat pv.toNat
def PartE (c : β × β → Int) (a b pv : Int) (l st : List β) : Prop := st.length = l.length ∧ st.toArray = (PE c a b pv l).2
def PartL (c : β × β → Int) (a b pv : Int) (l st : List β) : Prop := st.length = l.length ∧ st.toArray = (PA c a b pv l).2.2
theorem PartE.len {c : β × β → Int} {a b pv : Int} {l st : List β} (h : PartE c a b pv l st) : st.length = l.length := h.1
theorem PartL.len {c : β × β → Int} {a b pv : Int} {l st : List β} (h : PartL c a b pv l st) : st.length = l.length := h.1
theorem pe_start {c : β × β → Int} {a b pv : Int} {l : List β} (h0 : 0 ≤ a) (hab : a < b) (ha : a.toNat < l.length) (hp : pv.toNat < l.length) : PLe c a (a + 1) (b - 1) ((l.set a.toNat (l[pv.toNat]'hp)).set pv.toNat (l[a.toNat]'ha)).toArray = PE c a b pv l := by
  unfold PLe PE partitionEqual
  rw [sw ha hp, show (a + 1).toNat = a.toNat + 1 by omega, show (b - 1).toNat = b.toNat - 1 by omega]
theorem pa_start {c : β × β → Int} {a b pv : Int} {l : List β} (h0 : 0 ≤ a) (hab : a < b) (ha : a.toNat < l.length) (hp : pv.toNat < l.length) {st : List β} {j : Int}
    (h : PLp c a (a + 1) (b - 1) ((l.set a.toNat (l[pv.toNat]'hp)).set pv.toNat (l[a.toNat]'ha)).toArray = (j.toNat, st.toArray)) (hj : j.toNat < st.length) (has : a.toNat < st.length) : (PA c a b pv l).1 = j.toNat ∧ ((st.set j.toNat (st[a.toNat]'has)).set a.toNat (st[j.toNat]'hj)).toArray = (PA c a b pv l).2.2 := by
  unfold PLp at h
  rw [sw ha hp, show (a + 1).toNat = a.toNat + 1 by omega, show (b - 1).toNat = b.toNat - 1 by omega] at h
  unfold PA
  rw [partition_fst, partition_arr, h, sw hj has]
  exact ⟨rfl, rfl⟩
theorem PermL.refl (a b : Int) (l : List β) : PermL a b l l := permIn_refl _ _ _
theorem PermL.swap {a b i j : Int} {l st : List β} (h : PermL a b l st) (hi : i.toNat < st.length) (hj : j.toNat < st.length) (h1 : a.toNat ≤ i.toNat) (h2 : i.toNat < b.toNat) (h3 : a.toNat ≤ j.toNat) (h4 : j.toNat < b.toNat) (hb : b.toNat ≤ l.length) :
    PermL a b l ((st.set i.toNat (st[j.toNat]'hj)).set j.toNat (st[i.toNat]'hi)) := by
  unfold PermL
  rw [sw hi hj]
  exact permIn_trans _ _ _ _ _ h (swp_permIn _ _ _ _ _ h1 h2 h3 h4 (by have := h.len; simp; omega))
theorem PermL.trans {a b : Int} {l m st : List β} (h : PermL a b l m) (k : PermL a b m st) : PermL a b l st := permIn_trans _ _ _ _ _ h k
theorem parted_of {c : β × β → Int} (hw : SWO (ltc c)) {a b pv : Int} {l st : List β} (h : PartL c a b pv l st) (h0 : 0 ≤ a) (hp1 : a ≤ pv) (hp2 : pv < b) (hb : b.toNat ≤ l.length) : PermL a b l st ∧ Parted (ltc c) a.toNat b.toNat (PA c a b pv l).1 st.toArray := by
  obtain ⟨h1, h2, h3, h4, h5⟩ := partition_holds (ltc c) hw l.toArray a.toNat b.toNat pv.toNat (by omega) (by omega) (by simpa using hb)
  unfold PermL
  rw [h.2]
  exact ⟨h3, h1, h2, h4, h5⟩
theorem PS.eqL {c : β × β → Int} (hw : SWO (ltc c)) {a0 b0 : Nat} {a b pv k : Int} {l st t : List β} (h : PS (ltc c) a0 b0 a.toNat b.toNat l.toArray st.toArray) (hs : b0 ≤ l.toArray.size) (ht : PartE c a b pv st t) (h0 : 0 < a) (hab : a < b) (hk : k = a - 1) (hkl : k.toNat < st.length) (hp1 : a ≤ pv) (hp2 : pv < b) (hpl : pv.toNat < st.length) (hb : b.toNat ≤ st.length)
    (hc : 0 ≤ c (st[k.toNat]'hkl, st[pv.toNat]'hpl)) : PS (ltc c) a0 b0 (PE c a b pv st).1 b.toNat l.toArray t.toArray ∧ a.toNat < (PE c a b pv st).1 ∧ (PE c a b pv st).1 ≤ b.toNat := by
  have hlt : ltc c st.toArray[a.toNat - 1]! st.toArray[pv.toNat]! = false := by rw [show a.toNat - 1 = k.toNat by omega, gx hkl, gx hpl]; exact lt_no (by omega)
  have hmin : ∀ i, a.toNat ≤ i → i < b.toNat → ltc c st.toArray[i]! st.toArray[pv.toNat]! = false := fun i h1 h2 => by
    rcases h.below with hb | hb
    · omega
    · exact hw.ntrans _ _ _ (hb i h1 h2) hlt
  obtain ⟨h1, h2, h3, h4, h5⟩ := partitionEqual_holds (ltc c) hw st.toArray a.toNat b.toNat pv.toNat (by omega) (by omega) (by simpa using hb) hmin
  refine ⟨?_, h1, h2⟩
  rw [ht.2]
  exact PS.eq hw h hs (by omega) hlt h1 h2 h3 h4 h5
theorem PermL.whole {l st : List β} (h : PermL 0 l.length l st) : st.Perm l := by
  have := h.2.2
  have e := h.len
  rwa [show ((l.length : Nat) : Int).toNat = l.toArray.size by simp, show (0 : Int).toNat = 0 from rfl, Array.extract_size, show l.toArray.size = st.toArray.size by simp [e], Array.extract_size] at this
end
section
open Go
variable {P : Program} {n : Nat} {E : Env} {M0 : Av} {w0 : World} {S : Nat → Prop} {rs : List Res} {new : Bool} {b : Nat} {T : TypeId} {ps : List Pr}
theorem St.leC (j : Nat) (qs : List Pr) (hj : rs[j]? = some (cellsRes new b T ps)) (hl : LeL ps qs) {a : Act} {w : World} (h : St n E (Hp M0 w0 S rs) a w) : St n E (Hp M0 w0 S (rs.set j (cellsRes new b T qs))) a w := by
  obtain ⟨M, h1, h2, h3, h4⟩ := h
  have h4 : HpH M0 w0 S rs M w := h4
  obtain ⟨hM, cs, hb, hc, ho⟩ := (h4.hold _ (List.mem_of_getElem? hj)).1
  exact ⟨M, h1, h2, h3, h4.swap1 hj rfl rfl ⟨hM, cs, hb, hl.hl hc, ho⟩⟩
theorem Tr.leC {Q : Exit → Act → World → Prop} {c : Code} (j : Nat) (qs : List Pr) (hj : rs[j]? = some (cellsRes new b T ps)) (hl : LeL ps qs) (k : Tr P n E (Hp M0 w0 S (rs.set j (cellsRes new b T qs))) c Q) : Tr P n E (Hp M0 w0 S rs) c Q := Tr.conv (fun _ _ hs => hs.leC j qs hj hl) k
end
end Cp
namespace Cp
open Go Go.RowKit Go.Great
section
variable {P : Program} {n : Nat} {E : Env} {I : Asn} {Q : Exit → Act → World → Prop}
theorem Tr.cutD1V0 {α0 : Type} (K : Env) (hK : SubL E K) (F : α0 → Env) (Ii : α0 → Asn) (C : α0 → Prop) {x y : Code} (h : Tr P n E I x (Exit.then (fun a w => ∃ x0, C x0 ∧ St n (F x0 ++ K) (Ii x0) a w) Q))
    (k : ∀ x0, C x0 → Tr P n (F x0 ++ K) (Ii x0) y Q) : Tr P n E I (.seq x y) Q :=
  Tr.cut (fun y : α0 => F y ++ K) (fun y => Ii y) (fun y => C y) (Tr.post h fun e a w h => by cases e <;> first | exact h | (obtain ⟨x0, h1, h2⟩ := h; exact ⟨x0, h1, h2⟩)) fun y hy => k y hy
theorem Tr.cutD1V1 {α0 : Type} (K : Env) (hK : SubL E K) (F : α0 → Value → Env) (Ii : α0 → Value → Asn) (C : α0 → Prop) {x y : Code} (h : Tr P n E I x (Exit.then (fun a w => ∃ x0 v0, C x0 ∧ St n (F x0 v0 ++ K) (Ii x0 v0) a w) Q))
    (k : ∀ x0 v0, C x0 → Tr P n (F x0 v0 ++ K) (Ii x0 v0) y Q) : Tr P n E I (.seq x y) Q :=
  Tr.cut (fun y : α0 × Value => F y.1 y.2 ++ K) (fun y => Ii y.1 y.2) (fun y => C y.1) (Tr.post h fun e a w h => by cases e <;> first | exact h | (obtain ⟨x0, v0, h1, h2⟩ := h; exact ⟨(x0, v0), h1, h2⟩)) fun y hy => k y.1 y.2 hy
theorem Tr.cutD2V0 {α0 α1 : Type} (K : Env) (hK : SubL E K) (F : α0 → α1 → Env) (Ii : α0 → α1 → Asn) (C : α0 → α1 → Prop) {x y : Code} (h : Tr P n E I x (Exit.then (fun a w => ∃ x0 x1, C x0 x1 ∧ St n (F x0 x1 ++ K) (Ii x0 x1) a w) Q))
    (k : ∀ x0 x1, C x0 x1 → Tr P n (F x0 x1 ++ K) (Ii x0 x1) y Q) : Tr P n E I (.seq x y) Q :=
  Tr.cut (fun y : α0 × α1 => F y.1 y.2 ++ K) (fun y => Ii y.1 y.2) (fun y => C y.1 y.2) (Tr.post h fun e a w h => by cases e <;> first | exact h | (obtain ⟨x0, x1, h1, h2⟩ := h; exact ⟨(x0, x1), h1, h2⟩)) fun y hy => k y.1 y.2 hy
theorem Tr.cutD3V0 {α0 α1 α2 : Type} (K : Env) (hK : SubL E K) (F : α0 → α1 → α2 → Env) (Ii : α0 → α1 → α2 → Asn) (C : α0 → α1 → α2 → Prop) {x y : Code} (h : Tr P n E I x (Exit.then (fun a w => ∃ x0 x1 x2, C x0 x1 x2 ∧ St n (F x0 x1 x2 ++ K) (Ii x0 x1 x2) a w) Q))
    (k : ∀ x0 x1 x2, C x0 x1 x2 → Tr P n (F x0 x1 x2 ++ K) (Ii x0 x1 x2) y Q) : Tr P n E I (.seq x y) Q :=
  Tr.cut (fun y : α0 × α1 × α2 => F y.1 y.2.1 y.2.2 ++ K) (fun y => Ii y.1 y.2.1 y.2.2) (fun y => C y.1 y.2.1 y.2.2) (Tr.post h fun e a w h => by cases e <;> first | exact h | (obtain ⟨x0, x1, x2, h1, h2⟩ := h; exact ⟨(x0, x1, x2), h1, h2⟩)) fun y hy => k y.1 y.2.1 y.2.2 hy
end
end Cp
namespace Go.Proofs.YtgdlhajfajddiaaGreat
open Go Go.RowKit Cp

/-- A comparison: antisymmetric, transitive, and what is equal compares alike. -/
structure Cmp {α : Type} (c : α → α → Int) : Prop where
  swap : ∀ x y, c y x = - c x y
  tr : ∀ x y z, c x y < 0 → c y z < 0 → c x z < 0
  eq : ∀ x y z, c x y = 0 → c x z = c y z
theorem Cmp.eqr {α : Type} {c : α → α → Int} (h : Cmp c) (x y z : α) (e : c y z = 0) : c x y = c x z := by
  have h1 := h.eq y z x e
  have h2 := h.swap x y
  have h3 := h.swap x z
  omega
theorem Cmp.swo {α : Type} {c : α → α → Int} (h : Cmp c) : Go.Sort.SWO (ltc fun p : α × α => c p.1 p.2) where
  irrefl x := by have := h.swap x x; exact decide_eq_false (by show ¬ c x x < 0; omega)
  trans x y z h1 h2 := decide_eq_true (h.tr x y z (of_decide_eq_true h1) (of_decide_eq_true h2))
  ntrans x y z h1 h2 := by
    have h1 : ¬ c x y < 0 := of_decide_eq_false h1
    have h2 : ¬ c y z < 0 := of_decide_eq_false h2
    refine decide_eq_false (show ¬ c x z < 0 from fun h3 => ?_)
    have e1 := h.swap x y
    by_cases hxy : c x y = 0
    · have := h.eq x y z hxy; omega
    · have := h.tr y x z (by omega) h3; omega
theorem Cmp.cons {α : Type} {c d : α → α → Int} (h : Cmp c) (k : Cmp d) : Cmp (fun x y => if c x y = 0 then d x y else c x y) where
  swap x y := by
    have h1 := h.swap x y
    have h2 := k.swap x y
    show (if c y x = 0 then d y x else c y x) = - (if c x y = 0 then d x y else c x y)
    by_cases e : c x y = 0
    · rw [if_pos e, if_pos (by omega)]; exact h2
    · rw [if_neg e, if_neg (by omega)]; exact h1
  tr x y z h1 h2 := by
    show (if c x z = 0 then d x z else c x z) < 0
    have h1 : (if c x y = 0 then d x y else c x y) < 0 := h1
    have h2 : (if c y z = 0 then d y z else c y z) < 0 := h2
    by_cases e1 : c x y = 0
    · rw [if_pos e1] at h1
      have e3 := h.eq x y z e1
      by_cases e2 : c y z = 0
      · rw [if_pos e2] at h2; rw [if_pos (by omega)]; exact k.tr x y z h1 h2
      · rw [if_neg e2] at h2; rw [if_neg (by omega)]; omega
    · rw [if_neg e1] at h1
      by_cases e2 : c y z = 0
      · have e3 := h.eqr x y z e2
        rw [if_neg (by omega)]; omega
      · rw [if_neg e2] at h2
        have := h.tr x y z h1 h2
        rw [if_neg (by omega)]; exact this
  eq x y z h1 := by
    have h1 : (if c x y = 0 then d x y else c x y) = 0 := h1
    show (if c x z = 0 then d x z else c x z) = (if c y z = 0 then d y z else c y z)
    by_cases e1 : c x y = 0
    · rw [if_pos e1] at h1
      rw [h.eq x y z e1, k.eq x y z h1]
    · rw [if_neg e1] at h1; exact absurd h1 e1
theorem Cmp.nil {α : Type} : Cmp (fun _ _ : α => 0) := ⟨fun _ _ => rfl, fun _ _ _ h => absurd h (by decide), fun _ _ _ _ => rfl⟩
theorem Cmp.on {α β : Type} {c : β → β → Int} (f : α → β) (h : Cmp c) : Cmp (fun x y => c (f x) (f y)) := ⟨fun x y => h.swap (f x) (f y), fun x y z => h.tr (f x) (f y) (f z), fun x y z => h.eq (f x) (f y) (f z)⟩
theorem cmp_int : Cmp cmpI := ⟨fun x y => by unfold cmpI; by_cases h1 : x < y <;> by_cases h2 : y < x <;> simp [h1, h2] <;> omega, fun x y z h1 h2 => by unfold cmpI at *; (repeat (split at h1)) <;> (repeat (split at h2)) <;> (repeat (split)) <;> omega, fun x y z h => by rw [cmpI_zero.1 h]⟩
theorem cmpb_lt (x y : UInt8) (xs ys : List UInt8) : Lib.compareBytes (x :: xs) (y :: ys) < 0 ↔ x.toNat < y.toNat ∨ (x.toNat = y.toNat ∧ Lib.compareBytes xs ys < 0) := by
  rw [Lib.compareBytes]
  by_cases a1 : x < y
  · rw [if_pos a1]
    have := UInt8.lt_iff_toNat_lt.1 a1
    constructor
    · intro _; exact .inl this
    · intro _; decide
  · have b1 : ¬ x.toNat < y.toNat := fun h => a1 (UInt8.lt_iff_toNat_lt.2 h)
    rw [if_neg a1]
    by_cases a2 : y < x
    · have := UInt8.lt_iff_toNat_lt.1 a2
      rw [if_pos a2]
      constructor
      · intro h; exact absurd h (by decide)
      · intro h; omega
    · have b2 : ¬ y.toNat < x.toNat := fun h => a2 (UInt8.lt_iff_toNat_lt.2 h)
      rw [if_neg a2]
      constructor
      · intro h; exact .inr ⟨by omega, h⟩
      · rintro (h | h)
        · omega
        · exact h.2
theorem cmp_bytes_tr : ∀ (a b c : List UInt8), Lib.compareBytes a b < 0 → Lib.compareBytes b c < 0 → Lib.compareBytes a c < 0
  | [], [], _, h, _ => by simp [Lib.compareBytes] at h
  | [], _ :: _, [], _, h => by simp [Lib.compareBytes] at h
  | [], _ :: _, _ :: _, _, _ => by simp [Lib.compareBytes]
  | _ :: _, [], _, h, _ => by simp [Lib.compareBytes] at h
  | _ :: _, _ :: _, [], _, h => by simp [Lib.compareBytes] at h
  | x :: xs, y :: ys, z :: zs, h1, h2 => by
    rw [cmpb_lt] at h1 h2 ⊢
    rcases h1 with h1 | h1
    · rcases h2 with h2 | h2
      · left; omega
      · left; omega
    · rcases h2 with h2 | h2
      · left; omega
      · right; exact ⟨by omega, cmp_bytes_tr xs ys zs h1.2 h2.2⟩
theorem cmp_bytes : Cmp Lib.compareBytes := ⟨cmp_swap, cmp_bytes_tr, fun x y z h => by rw [(cmp_zero x y).1 h]⟩
theorem orL_cons (a : Int) (l : List Int) : orL (a :: l) = if a = 0 then orL l else a := rfl
theorem ordF_cmp : Cmp ordF := by
  have := (cmp_bytes.on Fnd.host).cons ((cmp_int.on Fnd.machine).cons ((cmp_int.on Fnd.day).cons ((cmp_bytes.on Fnd.subj).cons ((cmp_int.on Fnd.kind).cons ((cmp_int.on Fnd.alg).cons ((cmp_int.on Fnd.bits).cons ((cmp_int.on Fnd.num).cons ((cmp_bytes.on Fnd.text).cons ((cmp_int.on Fnd.src).cons ((cmp_int.on Fnd.conf).cons (Cmp.nil (α := Fnd))))))))))))
  exact this
/-- A list sorted by a comparison, each before what is greater. -/
def SortedC {α : Type} (c : α → α → Int) (l : List α) : Prop := l.Pairwise fun x y => c x y ≤ 0
theorem sorted_uniq {α : Type} {c : α → α → Int} (hc : Cmp c) {l m : List α} (hp : l.Perm m) (h1 : SortedC c l) (h2 : SortedC c m) (h : ∀ x y, x ∈ l → y ∈ l → c x y = 0 → x = y) : l = m :=
  List.Perm.eq_of_pairwise (le := fun x y => c x y ≤ 0) (fun a b ha hb h3 h4 => h a b ha (hp.mem_iff.2 hb) (by have := hc.swap a b; omega)) h1 h2 hp
theorem sortL_spec {α : Type} [Inhabited α] {c : α → α → Int} (hc : Cmp c) {l st : List α} (h : SortL (fun p => c p.1 p.2) 0 (l.length : Nat) l st) : st.Perm l ∧ SortedC c st := by
  refine ⟨PermL.whole h.1, ?_⟩
  have hl := h.len
  unfold SortedC
  rw [List.pairwise_iff_getElem]
  intro i j hi hj hij
  have h1 := h.2 i j (by simp) hij (by simp; omega)
  have e1 : st.toArray[i]! = st[i] := by simp [hi]
  have e2 : st.toArray[j]! = st[j] := by simp [hj]
  rw [e1, e2] at h1
  have h2 : ¬ c st[j] st[i] < 0 := of_decide_eq_false h1
  have := hc.swap st[i] st[j]
  omega

end Go.Proofs.YtgdlhajfajddiaaGreat
namespace Cp
open Go Go.RowKit Go.Great
section
variable {P : Program} {n : Nat} {E : Env} {M0 : Av} {w0 : World} {S : Nat → Prop} {rs : List Res} {β : Type} {e : TypeId} {sz : Nat} {f : β → List Pr} {Φ : List β → Prop} {v : Value}
theorem lens_nil {rows : List (List Pr)} (h : rows = []) : Pr.le (is (.slice none 0 0)) (andIs (.slice none 0 0) (lens rows.length)) := by
  subst h; exact fun _ _ _ hv => ⟨hv, ⟨none, 0, by rw [hv]; rfl⟩⟩
theorem lens_le {v : Value} {a b : Nat} (h : a = b) : Pr.le (andIs v (lens a)) (andIs v (lens b)) := by subst h; exact Pr.le_refl _
end
end Cp
namespace Go.Proofs.YtgdlhajfajddiaaGreat
open Go Go.RowKit Cp

section
variable {β : Type} [DecidableEq β]
def ddS (acc : List β) (x : β) : List β := if acc.getLast? = some x then acc else acc ++ [x]
/-- Each run of equal neighbours once. -/
def ddL (l : List β) : List β := l.foldl ddS []
theorem ddL_succ {l : List β} {j : Nat} {x : β} (h : l[j]? = some x) : ddL (l.take (j + 1)) = ddS (ddL (l.take j)) x := by
  unfold ddL; rw [List.take_add_one, h, List.foldl_append]; rfl
theorem ddS_last (acc : List β) (x : β) : (ddS acc x).getLast? = some x := by
  unfold ddS; split
  · assumption
  · simp
theorem ddL_last {l : List β} {j : Nat} {y : β} (hj : 1 ≤ j) (h : l[j - 1]? = some y) : (ddL (l.take j)).getLast? = some y := by
  have := ddL_succ (j := j - 1) h
  rw [show j - 1 + 1 = j by omega] at this
  rw [this]; exact ddS_last _ _
theorem ddL_ne {l : List β} {j : Nat} {x y : β} (hj : 1 ≤ j) (hx : l[j]? = some x) (hy : l[j - 1]? = some y) (hne : ¬ x = y) : ddL (l.take (j + 1)) = ddL (l.take j) ++ [x] := by
  rw [ddL_succ hx]; unfold ddS
  rw [if_neg]
  rw [ddL_last hj hy]; intro e; injection e with e; exact hne e.symm
theorem ddL_same {l : List β} {j : Nat} {x y : β} (hj : 1 ≤ j) (hx : l[j]? = some x) (hy : l[j - 1]? = some y) (he : x = y) : ddL (l.take (j + 1)) = ddL (l.take j) := by
  rw [ddL_succ hx]; unfold ddS
  rw [if_pos]
  rw [ddL_last hj hy, he]
theorem ddL_short {l : List β} (h : l.length < 2) : ddL l = l := by
  match l, h with
  | [], _ => rfl
  | [x], _ => rfl
theorem ddS_len (acc : List β) (x : β) : (ddS acc x).length ≤ acc.length + 1 := by unfold ddS; split <;> simp
theorem ddL_len (l : List β) : (ddL l).length ≤ l.length := by
  have key : ∀ (l acc : List β), (l.foldl ddS acc).length ≤ acc.length + l.length := by
    intro l
    induction l with
    | nil => intro acc; simp
    | cons x l ih => intro acc; have h1 := ih (ddS acc x); have h2 := ddS_len acc x; simp only [List.foldl_cons, List.length_cons]; omega
  have := key l []
  unfold ddL; simpa using this
theorem mem_ddS {acc : List β} {a x : β} : x ∈ ddS acc a ↔ x ∈ acc ∨ x = a := by
  unfold ddS; split
  · rename_i h
    constructor
    · exact .inl
    · rintro (h1 | rfl)
      · exact h1
      · exact List.mem_of_getLast? h
  · simp
theorem mem_ddL {l : List β} {x : β} : x ∈ ddL l ↔ x ∈ l := by
  have key : ∀ (l acc : List β), x ∈ l.foldl ddS acc ↔ x ∈ acc ∨ x ∈ l := by
    intro l
    induction l with
    | nil => intro acc; simp
    | cons a l ih => intro acc; rw [List.foldl_cons, ih, mem_ddS, List.mem_cons, or_assoc]
  unfold ddL; rw [key]; simp
abbrev Strict (c : β → β → Int) (l : List β) : Prop := l.Pairwise fun x y => c x y < 0
theorem ddL_strict {c : β → β → Int} (hc : Cmp c) (he : ∀ x y, c x y = 0 → x = y) {l : List β} (h : SortedC c l) : Strict c (ddL l) := by
  have key : ∀ (l acc : List β), Strict c acc → (∀ a ∈ acc, ∀ x ∈ l, c a x ≤ 0) → SortedC c l → Strict c (l.foldl ddS acc) := by
    intro l
    induction l with
    | nil => intro acc h1 _ _; exact h1
    | cons x l ih =>
      intro acc h1 h2 h3
      obtain ⟨h4, h5⟩ := List.pairwise_cons.1 h3
      rw [List.foldl_cons]
      refine ih _ ?_ (fun a ha y hy => ?_) h5
      · unfold ddS; split
        · exact h1
        · rename_i hl
          unfold Strict
          rw [List.pairwise_append]
          refine ⟨h1, by simp, fun a ha b hb => ?_⟩
          simp at hb; subst hb
          have hle := h2 a ha b (by simp)
          rcases Int.lt_or_eq_of_le hle with hlt | heq
          · exact hlt
          · have e := he _ _ heq
            subst e
            exfalso
            obtain ⟨pre, z, hz⟩ : ∃ pre z, acc = pre ++ [z] := by
              rcases List.eq_nil_or_concat acc with rfl | ⟨pre, z, hz⟩
              · cases ha
              · exact ⟨pre, z, by simpa using hz⟩
            subst hz
            rcases List.mem_append.1 ha with ha | ha
            · have h6 := (List.pairwise_append.1 h1).2.2 a ha z (by simp)
              have h7 := h2 z (by simp) a (by simp)
              have h8 := hc.swap a z
              have h6 : c a z < 0 := h6
              omega
            · simp at ha; subst ha; simp at hl
      · rcases mem_ddS.1 ha with ha | rfl
        · exact h2 a ha y (List.mem_cons_of_mem _ hy)
        · exact h4 y hy
  exact key l [] .nil (by simp) h
theorem strict_uniq {c : β → β → Int} (hc : Cmp c) {l m : List β} (h1 : Strict c l) (h2 : Strict c m) (h : ∀ x, x ∈ l ↔ x ∈ m) : l = m := by
  have hn : ∀ {k : List β}, Strict c k → k.Nodup := fun hk => hk.imp fun {a b} hab e => by subst e; have := hc.swap a a; omega
  have hp : l.Perm m := (List.perm_ext_iff_of_nodup (hn h1) (hn h2)).2 h
  refine sorted_uniq hc hp (h1.imp fun h => Int.le_of_lt h) (h2.imp fun h => Int.le_of_lt h) fun x y hx hy e => ?_
  obtain ⟨i, hi, rfl⟩ := List.mem_iff_getElem.1 hx
  obtain ⟨j, hj, rfl⟩ := List.mem_iff_getElem.1 hy
  have hp := List.pairwise_iff_getElem.1 h1
  rcases Nat.lt_trichotomy i j with hij | hij | hij
  · have := hp i j hi hj hij; omega
  · subst hij; rfl
  · have := hp j i hj hi hij
    have h3 := hc.swap l[i] l[j]
    omega
omit [DecidableEq β] in
theorem set_take {l : List β} {w : Nat} {u : β} (h : w < l.length) : (l.set w u).take (w + 1) = l.take w ++ [u] := by
  rw [List.take_add_one, List.getElem?_set_self h, List.take_set_of_le (Nat.le_refl _)]; rfl
theorem cells_atI {γ : Type} {f : γ → List Pr} {l : List γ} {qs : List Pr} {sz : Nat} {i : Int} {x : γ} (hf : ∀ x, (f x).length = sz) (h : l[i.toNat]? = some x) : ((((l.map f).flatten ++ qs).drop (0 + i.toNat * sz)).take sz) = f x := by
  rw [Nat.zero_add]; exact cells_at hf h
theorem cells_atO {γ : Type} {f : γ → List Pr} {l : List γ} {qs : List Pr} {sz m i : Nat} {x : γ} (hf : ∀ x, (f x).length = sz) (h : l[m + i]? = some x) : ((((l.map f).flatten ++ qs).drop (m * sz + i * sz)).take sz) = f x := by
  rw [← Nat.add_mul]; exact cells_at hf h
end
deriving instance DecidableEq for Fnd
theorem adj_pw {c : Fnd → Fnd → Int} (hc : Cmp c) {l : List Fnd} (h : ∀ (j : Nat) a b, l[j]? = some a → l[j + 1]? = some b → c a b < 0) : Strict c l := by
  induction l with
  | nil => exact .nil
  | cons x l ih =>
    have hl : ∀ (j : Nat) a b, l[j]? = some a → l[j + 1]? = some b → c a b < 0 := fun j a b ha hb => h (j + 1) a b (by simpa using ha) (by simpa using hb)
    have ih := ih hl
    refine List.pairwise_cons.2 ⟨fun y hy => ?_, ih⟩
    cases l with
    | nil => cases hy
    | cons z l =>
      have h0 : c x z < 0 := h 0 x z rfl rfl
      rcases List.mem_cons.1 hy with rfl | hy
      · exact h0
      · exact hc.tr x z y h0 ((List.pairwise_cons.1 ih).1 y hy)
theorem ordF_zero {a b : Fnd} (h : ordF a b = 0) : a = b := by
  have hk : ∀ (l : List Int), orL l = 0 → ∀ x ∈ l, x = 0 := by
    intro l
    induction l with
    | nil => intro _ x hx; cases hx
    | cons y l ih =>
      intro h x hx
      rw [orL_cons] at h
      by_cases hy : y = 0
      · rw [if_pos hy] at h
        rcases List.mem_cons.1 hx with rfl | hx
        · exact hy
        · exact ih h x hx
      · rw [if_neg hy] at h; exact absurd h hy
  have := hk _ h
  unfold keysF at this
  simp only [List.mem_cons, List.not_mem_nil, or_false, forall_eq_or_imp, forall_eq, cmp_zero, cmpI_zero] at this
  obtain ⟨h1, h2, h3, h4, h5, h6, h7, h8, h9, h10, h11⟩ := this
  cases a; cases b; simp_all
theorem put_mem' {l : List Fnd} {f x : Fnd} : x ∈ putF l f ↔ x ∈ l ∨ x = f := by
  constructor
  · exact put_mem
  · intro h
    unfold putF
    split
    · rename_i hk
      rcases h with h | rfl
      · exact h
      · obtain ⟨h1, h2⟩ := hk
        rw [Option.map_eq_some_iff] at h2
        obtain ⟨y, hy, e⟩ := h2
        rw [← ordF_zero e]; exact List.mem_of_getElem? hy
    · rcases h with h | rfl
      · rw [List.append_assoc, List.mem_append, List.mem_append]
        rw [← List.take_append_drop (kF l f) l] at h
        rcases List.mem_append.1 h with h | h
        · exact .inl h
        · exact .inr (.inr h)
      · simp
abbrev normL (l : List Fnd) : List Fnd := l.foldl putF []
theorem mem_normL {l : List Fnd} {x : Fnd} : x ∈ normL l ↔ x ∈ l := by
  have key : ∀ (l acc : List Fnd), x ∈ l.foldl putF acc ↔ x ∈ acc ∨ x ∈ l := by
    intro l
    induction l with
    | nil => intro acc; simp
    | cons a l ih => intro acc; rw [List.foldl_cons, ih, put_mem', List.mem_cons, or_assoc]
  rw [key]; simp
theorem norm_strict (l : List Fnd) : Strict ordF (normL l) := adj_pw ordF_cmp (fold_adj l [] (fun j a b h => by simp at h))
/-- Sorted, and then each once: the normal list. -/
theorem dd_norm {l st : List Fnd} (hp : st.Perm l) (hs : SortedC ordF st) : ddL st = normL l :=
  strict_uniq ordF_cmp (ddL_strict ordF_cmp (fun _ _ => ordF_zero) hs) (norm_strict l) fun x => by rw [mem_ddL, mem_normL]; exact hp.mem_iff
theorem norm_id {l : List Fnd} (h : AdjF l) : normL l = l := strict_uniq ordF_cmp (norm_strict l) (adj_pw ordF_cmp h) fun x => mem_normL

end Go.Proofs.YtgdlhajfajddiaaGreat
namespace Go.Proofs.YtgdlhajfajddiaaGreat
open Go Go.RowKit Cp

theorem fnd_of {x y : Fnd} (h : x.src = y.src ∧ x.host = y.host ∧ x.machine = y.machine ∧ x.day = y.day ∧ x.conf = y.conf ∧ x.kind = y.kind ∧ x.subj = y.subj ∧ x.alg = y.alg ∧ x.bits = y.bits ∧ x.num = y.num ∧ x.text = y.text) : x = y := by
  cases x; cases y; simp at h; simp [h]
theorem fnd_iff {x y : Fnd} : x = y ↔ (x.src = y.src ∧ x.host = y.host ∧ x.machine = y.machine ∧ x.day = y.day ∧ x.conf = y.conf ∧ x.kind = y.kind ∧ x.subj = y.subj ∧ x.alg = y.alg ∧ x.bits = y.bits ∧ x.num = y.num ∧ x.text = y.text) :=
  ⟨by rintro rfl; simp, fnd_of⟩
theorem strict_idx {l : List Fnd} (h : AdjF l) {i j : Nat} {f g : Fnd} (hf : l[i]? = some f) (hg : l[j]? = some g) (hij : i < j) : ordF f g < 0 := by
  have hi := (List.getElem?_eq_some_iff.1 hf).1
  have hj := (List.getElem?_eq_some_iff.1 hg).1
  have := List.pairwise_iff_getElem.1 (adj_pw ordF_cmp h) i j hi hj hij
  rw [List.getElem?_eq_getElem hi] at hf
  rw [List.getElem?_eq_getElem hj] at hg
  simp only [Option.some.injEq] at hf hg
  rw [← hf, ← hg]; exact this

end Go.Proofs.YtgdlhajfajddiaaGreat
namespace Go.Proofs.YtgdlhajfajddiaaGreat
open Go Go.RowKit Cp

set_option maxRecDepth 20000 in
theorem w_lessI {a b : Int}  : Fun Tryz.prog 168 [int a, int b] (bool (decide (a < b))) := by
 refine Fun.of Tryz.func168 rfl rfl (by exact Nat.le_of_ble_eq_true rfl) fun M0 w0 => ?_
 refine Tr.seq (Tr.reg0 (cm rfl (Ch.nil (Fin.go (Tr.seq (Tr.reg0 (cm rfl (co rfl (ok_call rfl (w_isNaNI) ⟨ke rfl, trivial⟩) (cm rfl ?_)))))))))
 refine Ch.cs 7 rfl ?_ ?_ <;> intro h1 q1
 exact absurd h1 (by decide)
 refine cnt h1 rfl (cnt h1 rfl (cnt h1 rfl (co rfl (kpf rfl rfl h1 rfl) (cm rfl (cym rfl rfl (cym rfl rfl (cy rfl rfl (ki rfl rfl rfl rfl) (co rfl (kpf rfl rfl rfl rfl) (cm rfl (Ch.nil (Fin.go (wk1 4 rfl (Tr.ret (Fin.ret1 rfl (OutW.bse _ _) rfl ?_))))))))))))))
 · exact Pr.le_refl _
end Go.Proofs.YtgdlhajfajddiaaGreat
namespace Go.Proofs.YtgdlhajfajddiaaGreat
open Go Go.RowKit Cp

end Go.Proofs.YtgdlhajfajddiaaGreat
namespace Go.Proofs.YtgdlhajfajddiaaGreat
open Go Go.RowKit Cp
def InR (own : List Int) (m : Nat) : Prop := ∀ i ∈ own, 0 ≤ i ∧ i < (m : Int)
instance (own : List Int) (m : Nat) : Decidable (InR own m) := inferInstanceAs (Decidable (∀ i ∈ own, 0 ≤ i ∧ i < (m : Int)))
end Go.Proofs.YtgdlhajfajddiaaGreat
namespace Go.Proofs.YtgdlhajfajddiaaGreat
open Go Go.RowKit Cp

theorem fact_in {φ : Prop} {p q : Pr} (h : φ) (hl : Pr.le p q) : Pr.le p (fact φ q) := fun _ _ _ hp => ⟨h, hl _ _ _ hp⟩
end Go.Proofs.YtgdlhajfajddiaaGreat
namespace Go.Proofs.YtgdlhajfajddiaaGreat
open Go Go.RowKit Cp

theorem tab_len {l : List UInt8} {x : Nat} {y : Int} {hl : x < l.length} (h : (List.range 256).all (fun i => match l[i]? with | some b => decide (b.toNat ≤ 8 ∧ (1 ≤ i → 2 ^ b.toNat ≤ 2 * i)) | none => true) = true) (hx : x < 256) (hy : (x : Int) = y) :
    0 ≤ IntKind.i64.wrap (IntKind.i64.wrap ((l[x]).toNat : Int)) ∧ IntKind.i64.wrap (IntKind.i64.wrap ((l[x]).toNat : Int)) ≤ 8 ∧ (1 ≤ y → ((2 ^ (IntKind.i64.wrap (IntKind.i64.wrap ((l[x]).toNat : Int))).toNat : Nat) : Int) ≤ 2 * y) := by
  subst hy
  have h1 := List.all_eq_true.1 h x (List.mem_range.2 hx)
  rw [List.getElem?_eq_getElem hl] at h1
  have h1 := of_decide_eq_true h1
  have hb : (l[x]).toNat < 256 := UInt8.toNat_lt _
  have hw := IntWalk.i64_in ((l[x]).toNat : Int) ⟨by omega, by omega⟩
  rw [hw, hw, Int.toNat_natCast]
  exact ⟨by omega, by omega, fun hx1 => by have := h1.2 (by omega); omega⟩

set_option maxRecDepth 20000 in
theorem w_Len64x {x : Int} (h0 : 0 ≤ x) (h1 : x < 256) : Fun Tryz.prog 185 [is (.int .u64 x)] (ex fun k : Int => fact (0 ≤ k ∧ k ≤ 8 ∧ (1 ≤ x → ((2 ^ k.toNat : Nat) : Int) ≤ 2 * x)) (int k)) := by
 refine Fun.of Tryz.func185 rfl rfl (by exact Nat.le_of_ble_eq_true rfl) fun M0 w0 => ?_
 have hw : IntKind.u8.wrap x = x := IntWalk.u8_in x ⟨by omega, by omega⟩
 refine Tr.seq (Tr.reg0 (cm rfl (Ch.nil (Fin.go (Tr.seq (Tr.seq (Tr.reg0 (cm rfl (co rfl (ki rfl rfl rfl rfl) (Ch.nil (Fin.go ?_)))))))))))
 refine Tr.cn rfl ?_ ?_ <;> intro h1 q1
 exfalso; omega
 refine Tr.skip (Fin.go (Tr.seq (Tr.seq (Tr.reg0 (cm rfl (co rfl (ki rfl rfl rfl rfl) (Ch.nil (Fin.go ?_))))))))
 refine Tr.cn rfl ?_ ?_ <;> intro h2 q2
 exfalso; omega
 refine Tr.skip (Fin.go (Tr.seq (Tr.seq (Tr.reg0 (cm rfl (co rfl (ki rfl rfl rfl rfl) (Ch.nil (Fin.go ?_))))))))
 refine Tr.cn rfl ?_ ?_ <;> intro h3 q3
 exfalso; omega
 refine Tr.skip (Fin.go (Tr.seq (Tr.reg0 (cm rfl (cm rfl (co rfl (ok_conv rfl Tryz.underlying193 Tryz.underlying5 (vl rfl)) ?_))))))
 refine co rfl (ok_sidx rfl Tryz.underlying9 (vl rfl) (vl rfl) (by omega) (List.getElem?_eq_getElem (by show _ < 256; omega))) ?_
 refine co rfl (ok_conv rfl Tryz.underlying5 Tryz.underlying3 (vl rfl)) (co rfl (ki rfl rfl rfl rfl) (cm rfl (Ch.nil (Fin.go (wk1 2 rfl (Tr.ret (Fin.ret1 rfl (OutW.bse _ _) rfl ?_)))))))
 · refine ex_in _ (fact_in ?_ (Pr.le_refl _)); rw [Int.zero_add]; refine tab_len ?_ (by omega) (by omega); decide +kernel
set_option maxRecDepth 20000 in
theorem w_BLenx {x : Int} (h0 : 0 ≤ x) (h1 : x < 256) : Fun Tryz.prog 120 [is (.int .u64 x)] (ex fun k : Int => fact (0 ≤ k ∧ k ≤ 8 ∧ (1 ≤ x → ((2 ^ k.toNat : Nat) : Int) ≤ 2 * x)) (int k)) := by
 refine Fun.of Tryz.func120 rfl rfl (by exact Nat.le_of_ble_eq_true rfl) fun M0 w0 => ?_
 refine Tr.seq (Tr.reg0 (cm rfl (Ch.nil (Fin.go (Tr.seq (Tr.cond rfl (fun h => nomatch h) (fun _ => ?_)))))))
 refine Tr.skip (Fin.go (Tr.seq (Tr.reg0 (cm rfl (co rfl (ok_call rfl (w_Len64x (by omega) (by omega)) ⟨ke rfl, trivial⟩) (cm rfl (Ch.nil (Fin.go (Tr.ret (Fin.ret1 rfl (OutW.bse _ _) rfl ?_))))))))))
 · exact Pr.le_refl _
set_option maxRecDepth 20000 in
theorem w_npow {x : Int} (h0 : 1 ≤ x) (h1 : x < 256) : Fun Tryz.prog 216 [int x] (ex fun m : Int => fact (1 ≤ m ∧ m ≤ 2 * x) (is (.int .u64 m))) := by
 refine Fun.of Tryz.func216 rfl rfl (by exact Nat.le_of_ble_eq_true rfl) fun M0 w0 => ?_
 have hw : IntKind.u64.wrap x = x := IntWalk.u64_in x ⟨by omega, by omega⟩
 refine Tr.seq (Tr.reg0 (cm rfl (Ch.nil (Fin.go (Tr.seq (Tr.regT (tm rfl (tp rfl (ok_conv rfl Tryz.underlying3 Tryz.underlying150 (vl rfl)) (tp rfl (ok_call rfl (w_BLenx (by omega) (by omega)) ⟨ke rfl, trivial⟩) ?_)))))))))
 refine TO.ex 5 rfl (fun k => TO.fact 5 rfl fun hk => ?_)
 obtain ⟨hk1, hk2, hk3⟩ := hk
 refine tp rfl (ok_shl1 rfl (vl rfl) (vl rfl) (by omega) (by omega) (hk3 (by omega))) (tm rfl (TO.nil (Fin.go (Tr.ret (Fin.ret1 rfl (OutW.bse _ _) rfl ?_)))))
 · exact fun M w v ⟨r, h, hv⟩ => ⟨r, by rw [hw] at h; exact h, hv⟩
set_option maxRecDepth 20000 in
theorem w_xnext {xb : Nat}  : FunM Tryz.prog 217 [is (.pointer (some ⟨xb, 0, none⟩))] (anyK .u64) (cellsRes true xb 211 [anyK .u64]) (fun _ => cellsRes true xb 211 [anyK .u64]) := by
 refine FunM.of Tryz.func217 rfl rfl (by exact Nat.le_of_ble_eq_true rfl) fun M0 w0 S rs M1 w1 => ?_
 refine Tr.seq (Tr.reg0 (cm rfl (Ch.nil (Fin.go (Tr.seq (Tr.regX mixed [none, none, some (0, 0, false, 0), none, none, some (0, 0, false, 0), none, none, none, some (0, 0, true, 0)] (by kernel_rfl) (xm rfl (xo rfl (fun _ => okp_nilCheck rfl (vl rfl)) (xrd 0 rfl rfl (rd_load1 rfl one211 (vl rfl) rfl) (xm rfl (xo rfl (fun _ => okp_nilCheck rfl (vl rfl)) (xrd 0 rfl rfl (rd_load1 rfl one211 (vl rfl) rfl) (xo rfl (fun _ => ok_shK (by decide) rfl (vl rfl) (vl rfl) (by decide)) ?_)))))))))))))
 refine xo rfl (fun _ => ok_bits (by decide) rfl (vl rfl) (vl rfl)) (xo rfl (fun _ => okp_nilCheck rfl (vl rfl)) (Cx.ef0 0 rfl rfl (ef_store rfl rfl (vl rfl) (VL.le (vl rfl) (one_cellsP _)) sz211 rfl (by exact Nat.le_of_ble_eq_true rfl) rfl) ?_))
 refine Cx.nil ⟨rfl, ?_⟩
 refine FinX.done (AllC.cons (AllC.cons (AllC.map _))) (Fin.go (Tr.seq (Tr.regX mixed [none, none, some (0, 0, false, 0), none, none, some (0, 0, false, 0), none, none, none, some (0, 0, true, 0)] (by kernel_rfl) (xm rfl (xo rfl (fun _ => okp_nilCheck rfl (vl rfl)) (xrd 0 rfl rfl (rd_load1 rfl one211 (vl rfl) rfl) (xm rfl (xo rfl (fun _ => okp_nilCheck rfl (vl rfl)) (xrd 0 rfl rfl (rd_load1 rfl one211 (vl rfl) rfl) (xo rfl (fun _ => ok_shK (by decide) rfl (vl rfl) (vl rfl) (by decide)) (xo rfl (fun _ => ok_bits (by decide) rfl (vl rfl) (vl rfl)) (xo rfl (fun _ => okp_nilCheck rfl (vl rfl)) (Cx.ef0 0 rfl rfl (ef_store rfl rfl (vl rfl) (VL.le (vl rfl) (one_cellsP _)) sz211 rfl (by exact Nat.le_of_ble_eq_true rfl) rfl) ?_)))))))))))))
 refine Cx.nil ⟨rfl, ?_⟩
 refine FinX.done (AllC.cons (AllC.cons (AllC.map _))) (Fin.go (wk1 0 rfl (Tr.seq (Tr.regX mixed [none, none, some (0, 0, false, 0), none, none, some (0, 0, false, 0), none, none, none, some (0, 0, true, 0)] (by kernel_rfl) (xm rfl (xo rfl (fun _ => okp_nilCheck rfl (vl rfl)) (xrd 0 rfl rfl (rd_load1 rfl one211 (vl rfl) rfl) (xm rfl (xo rfl (fun _ => okp_nilCheck rfl (vl rfl)) (xrd 0 rfl rfl (rd_load1 rfl one211 (vl rfl) rfl) (xo rfl (fun _ => ok_shK (by decide) rfl (vl rfl) (vl rfl) (by decide)) (xo rfl (fun _ => ok_bits (by decide) rfl (vl rfl) (vl rfl)) (xo rfl (fun _ => okp_nilCheck rfl (vl rfl)) ?_)))))))))))))
 refine Cx.ef0 0 rfl rfl (ef_store rfl rfl (vl rfl) (VL.le (vl rfl) (one_cellsP _)) sz211 rfl (by exact Nat.le_of_ble_eq_true rfl) rfl) ?_
 refine Cx.nil ⟨rfl, ?_⟩
 refine FinX.done (AllC.cons (AllC.cons (AllC.map _))) (Fin.go (Tr.seq (Tr.reg0 (cm rfl (co rfl (okp_nilCheck rfl (vl rfl)) (co rfl (ok_rd 0 rfl (rd_load1 rfl one211 (vl rfl) rfl)) (cm rfl (Ch.nil (Fin.go (wk1 2 rfl (Tr.ret (Fin.retM1 rfl rfl ?_ (fun _ _ _ _ => rfl)))))))))))))
 · exact Pr.le_refl _
end Go.Proofs.YtgdlhajfajddiaaGreat
