/-
  Part 4 of the texts that prove this claim, merged.
-/
import Derived.Test.YtflodcidhlmaaaaGreatHsFP3
set_option linter.all false
set_option maxRecDepth 40000
set_option maxHeartbeats 16000000
namespace Go.Proofs.YtflodcidhlmaaaaGreat
open Go Go.RowKit Cp
theorem w_rput {t : Int} {b : Nat} {n : Bool} {m : Nat} {q : Pr} {B : Nat}  (hb : b ≤ 1000) (hm : m ≤ 20) (hB : B ≤ 1000000) (ih : m = 0 ∨ Fun Tryz.prog 212 [agg (rowQ q)] (bytesE B)) : Fun Tryz.prog 212 [agg [int t, bts b, bool n, slice 4 (List.replicate m (rowQ q))]] (bytesE (2 * (1000 + 20 * B) + 2)) := by
 refine fo Tryz.func212 rfl ⟨rfl, rfl⟩ fun M0 w0 => ?_
 have hlr : (List.replicate m (rowQ q)).length = m := List.length_replicate
 have hlb : (List.replicate b u8R).length = b := List.length_replicate
 refine ac ?_
 refine ap ?_
 refine TO.pad ?_
 refine TO.efs 0 rfl rfl (by decide) (ef_append rfl rfl (by decide) rfl Tryz.underlying176 sz5 by5 z5 rfl (by decide) ⟨_, rfl, full_le _ _⟩ (vl rfl) (by simp only [List.length_append, List.length_replicate, List.length_cons, List.length_nil]; unfold maxLen; omega) (by simp only [List.length_append, List.length_replicate, List.length_cons, List.length_nil]; omega) (appR_full (by exact List.Mem.head _) (vl rfl))) (fun v1 => ?_)
 refine ap ?_
 refine ac ?_
 refine Tr.block (Tr.loopD2V1 [(1, _)] ⟨ke rfl, trivial⟩ (fun (k : Nat) (acc : Nat) v => [(4, int ((k : Nat) : Int)), (3, andIs v (bts acc))]) (fun (k : Nat) (acc : Nat) v => Hp M0 w0 noS ([appRes 5 1 v])) (fun (k : Nat) (acc : Nat) => k ≤ m ∧ acc ≤ b + k * B) (fun (k : Nat) (acc : Nat) => m - k) (0) (b) v1 (⟨by omega, by omega⟩) ⟨ke rfl, ⟨_, rfl, own_le (by simp)⟩, trivial⟩ (fun _ _ h => h) ?_)
 rintro k acc v ⟨hk1, hk2⟩
 have hkB : k * B ≤ 20 * B := Nat.mul_le_mul_right B (by omega)
 refine ac ?_
 refine co rfl (ok_len rfl Tryz.underlying193 (vl rfl)) ?_
 refine ac ?_
 refine Tr.cn rfl ?_ ?_ <;> intro h1 q1
 have hkm : k < m := by have := Nrm.nrm h1; rw [hlr] at this; omega
 have ih2 := ih.resolve_left (by omega)
 refine ac ?_
 refine ap ?_
 refine tp rfl (ok_indexAddr rfl Tryz.underlying193 sz195 (vl rfl) (vl rfl) (by omega) (rep_at hkm)) (tp rfl (ok_loadA rfl agg195 sz195 (vl rfl) rfl rfl) (tp rfl (kc1 (ih2) rfl rfl) ?_))
 refine TO.ex 22 rfl (fun z22 => TO.fact 22 rfl fun hz22 => ?_)
 refine TO.efs 0 rfl rfl (by decide) (ef_append rfl rfl (by decide) rfl Tryz.underlying176 sz5 by5 z5 rfl (by decide) ⟨_, rfl, andIs_le _ _⟩ (vl rfl) (by simp only [List.length_append, List.length_replicate, List.length_cons, List.length_nil]; unfold maxLen; omega) (by simp only [List.length_append, List.length_replicate, List.length_cons, List.length_nil]; omega) (appR_is (by exact List.Mem.head _) ⟨_, rfl, andIs_is _ _⟩)) (fun v2 => ?_)
 refine ap ?_
 refine wk3 1 3 4 rfl ?_
 refine ac ?_
 exact Fin.famD2V1 (k + 1) (acc + z22) v2 (⟨⟨by omega, by rw [Nat.succ_mul]; omega⟩, by omega⟩) ⟨⟨_, rfl, int_succ k⟩, ⟨_, rfl, own_le (by rw [rep_add])⟩, ke rfl, trivial⟩ (fun _ _ h => h)
 have hke : k = m := by have := Nrm.nrm h1; rw [hlr] at this; omega
 have hll := lenC_le acc
 refine ac ?_
 refine Tr.seq (Tr.pad (Tr.rx ?_))
 refine ay ?_
 refine xo rfl (fun _ => ok_conv rfl Tryz.underlying3 Tryz.underlying5 (vl rfl)) (xo rfl (fun _ => ok_buildSlice (xs := [.tmp 26]) (rows := [u8R]) rfl rfl Tryz.underlying176 sz5 z5 rfl (by decide) ⟨⟨(by exact rfl), VL.le (vl rfl) (Pr.le_trans (is_anyK _ _) (one_cellsP _))⟩, trivial⟩ (by decide)) ?_)
 refine xm rfl (xo rfl (fun _ => ok_len rfl Tryz.underlying176 ⟨_, rfl, andIs_le _ _⟩) ?_)
 refine xo rfl (fun _ => ok_call rfl (w_rlength (n := acc) (by omega)) ⟨⟨_, rfl, int_eq (by simp)⟩, trivial⟩) ?_
 refine Cx.ef 0 rfl rfl (by decide) (ef_append rfl rfl (by decide) rfl Tryz.underlying176 sz5 by5 z5 rfl (by decide) ⟨_, rfl, full_le _ _⟩ (vl rfl) (by simp only [List.length_append, List.length_replicate, List.length_cons, List.length_nil]; unfold maxLen; omega) (by simp only [List.length_append, List.length_replicate, List.length_cons, List.length_nil]; omega) (appR_full (by exact List.Mem.head _) (vl rfl))) ?_
 refine xm rfl ?_
 refine Cx.ef 0 rfl rfl (by decide) (ef_append rfl rfl (by decide) rfl Tryz.underlying176 sz5 by5 z5 rfl (by decide) (vl rfl) ⟨_, rfl, andIs_le _ _⟩ (by simp only [List.length_append, List.length_replicate, List.length_cons, List.length_nil]; unfold maxLen; omega) (by simp only [List.length_append, List.length_replicate, List.length_cons, List.length_nil]; omega) appR_slot) ?_
 refine Cx.ef 0 rfl rfl (by decide) (ef_move rfl rfl (by decide) rfl (vl rfl)) ?_
 refine Cx.nil ⟨by kernel_rfl, ?_⟩
 refine FinX.open_ 0 2 rfl rfl (fun v3 => ?_)
 refine FinX.done al2 (Fin.go (wk1 2 rfl ?_))
 refine ac ?_
 · exact bytesE_in (m := 1 + lenC acc + acc) (by have := lenC_le acc; omega) (Pr.le_trans (andIs_le _ _) (Pr.le_of_eq (by rw [show ([u8R] : List (List Pr)) = List.replicate 1 u8R from rfl, rep_add, rep_add])))
theorem w_rEncode {q : Pr} {D B : Nat} (hf : Fun Tryz.prog 210 [agg (rowQ q)] anyB) (hd : Fun Tryz.prog 211 [agg (rowQ q)] (depthE D)) (hp : Fun Tryz.prog 212 [agg (rowQ q)] (bytesE B)) : Fun Tryz.prog 165 [agg (rowQ q)] (tup [bytesE B, anyK .i64]) := by
 refine fo Tryz.func165 rfl ⟨rfl, rfl⟩ fun M0 w0 => ?_
 refine ac ?_
 refine ap ?_
 refine tp rfl (kc1 (hf) rfl rfl) ?_
 refine TO.ex 6 rfl (fun z6 => ?_)
 refine ap ?_
 refine Tr.cn rfl ?_ ?_ <;> intro h1 q1
 refine ac ?_
 refine Tr.ret (Fin.then_ret (Fin.ret2 rfl (OutW.bse _ _) rfl ?_ rfl ?_))
 · exact bytesE_in (m := 0) (by omega) (nil_slice 1)
 · exact is_anyK _ _
 refine ac ?_
 refine ap ?_
 refine tp rfl (kc1 (hd) rfl rfl) ?_
 refine TO.ex 9 rfl (fun z9 => TO.fact 9 rfl fun hz9 => ?_)
 refine ap ?_
 refine Tr.cn rfl ?_ ?_ <;> intro h2 q2
 refine ac ?_
 refine Tr.ret (Fin.then_ret (Fin.ret2 rfl (OutW.bse _ _) rfl ?_ rfl ?_))
 · exact bytesE_in (m := 0) (by omega) (nil_slice 1)
 · exact is_anyK _ _
 refine ac ?_
 refine ac ?_
 refine co rfl (kc1 (hp) rfl rfl) ?_
 refine ac ?_
 refine ap ?_
 refine TO.ex 13 rfl (fun z13 => TO.fact 13 rfl fun hz13 => ?_)
 refine tp rfl (ok_len rfl Tryz.underlying176 (vl rfl)) ?_
 refine ap ?_
 refine wk2 4 15 rfl ?_
 refine Tr.cn rfl ?_ ?_ <;> intro h3 q3
 refine ac ?_
 refine Tr.ret (Fin.then_ret (Fin.ret2 rfl (OutW.bse _ _) rfl ?_ rfl ?_))
 · exact bytesE_in (m := 0) (by omega) (nil_slice 1)
 · exact is_anyK _ _
 refine ac ?_
 refine ac ?_
 refine Tr.ret (Fin.ret2 rfl (OutW.bse _ _) rfl ?_ rfl ?_)
 · exact Pr.le_refl _
 · exact is_anyK _ _
theorem u8_zero : IntKind.u8.wrap 0 = 0 := rfl
def intMu (x h : Int) : Nat := (2 * x).toNat + (if 128 ≤ h then 1 else 0)
theorem int_step {x h : Int} {t : Nat} (h0 : 0 ≤ x) (hc : x ≠ 0 ∨ 128 ≤ h) (hi : t + intMu x h ≤ 400) : (0 ≤ x / 256 ∧ t + 1 + intMu (x / 256) (IntKind.u8.wrap x) ≤ 400) ∧ intMu (x / 256) (IntKind.u8.wrap x) < intMu x h := by
  have key : intMu (x / 256) (IntKind.u8.wrap x) < intMu x h := by
    unfold intMu
    by_cases hx : x = 0
    · subst hx
      rw [u8_zero, if_neg (by omega), if_pos (by omega)]; decide
    · have : (if 128 ≤ IntKind.u8.wrap x then 1 else 0) ≤ 1 := by split <;> omega
      have : 0 ≤ (if 128 ≤ h then 1 else 0) := by split <;> omega
      omega
  exact ⟨⟨by omega, by omega⟩, key⟩
theorem ok_shr8 {P : Program} {I : Asn} {E : Env} {o : Oper} {t u : TypeId} {x y : Operand} {m : Int} (ho : o.op = .binOp .shr t x y u) (hx : VL E x (int m)) (hy : VL E y (is (.int .u64 8))) (h0 : 0 ≤ m) : OpOK P I o E (int (m / 256)) :=
  OpOK.same fun M w a he _ => by
    have h1 : a.eval x = .int .i64 m := hx.ev he (by simp [ho, Op.operands])
    have h2 : a.eval y = .int .u64 8 := hy.ev he (by simp [ho, Op.operands])
    refine ⟨.int .i64 (m.fdiv 256), ?_, congrArg (Value.int .i64) (Int.fdiv_eq_ediv_of_nonneg m (by omega))⟩
    simp only [execOp, ho, h1, h2]
    simp [eqGuard, binOp, Op.shift, IntKind.bits]
abbrev q0 : Pr := slice 4 []

theorem w_rInt {n : Int} (hn : 0 ≤ n ∧ n ≤ 40000) : Fun Tryz.prog 215 [int n] (agg (rowQ q0)) := by
 refine fo Tryz.func215 rfl ⟨rfl, rfl⟩ fun M0 w0 => (Tr.seq (Tr.regT ?_))
 refine TO.alloc rfl rfl (by decide) rfl z195 zo195 (fun b1 => ?_)
 refine ap ?_
 refine ac ?_
 refine co rfl (ok_conv rfl Tryz.underlying3 Tryz.underlying5 (vl rfl)) ?_
 refine ac ?_
 refine ac ?_
 refine co rfl (ok_shr8 rfl (vl rfl) (vl rfl) (by omega)) ?_
 refine ac ?_
 refine Tr.block ?_
 refine Tr.loopD3V0 [(2, _)] ⟨ke rfl, trivial⟩ (fun (x : Int) (h : Int) (t : List Int) => [(4, int x), (3, slice 1 ((h :: t).map fun n => [is (.int .u8 n)]))]) (fun (x : Int) (h : Int) (t : List Int) => Hp M0 w0 noS ([cellsRes true b1 195 (([.int .i64 0, .slice none 0 0, .bool false, .slice none 0 0] : List Value).map is)])) (fun (x : Int) (h : Int) (t : List Int) => 0 ≤ x ∧ t.length + intMu x h ≤ 400) (fun (x : Int) (h : Int) (t : List Int) => intMu x h) (n / 256) (IntKind.u8.wrap n) ([])  (⟨by omega, by unfold intMu; simp only [List.length_nil]; split <;> omega⟩) ⟨ke rfl, ⟨_, rfl, Pr.le_trans (full_le _ _) (Pr.le_of_eq rfl)⟩, trivial⟩ (fun _ _ h => h) ?_
 rintro x h t  ⟨hx0, hmu⟩
 refine ac ?_
 refine Ch.cs 12 rfl ?_ ?_ <;> intro h1 q1
 refine ac ?_
 refine Ch.cs 16 rfl ?_ ?_ <;> intro h2 q2
 refine ac ?_
 refine wk4 2 3 4 35 rfl ?_
 refine ac ?_
 refine ap ?_
 refine tp rfl (ok_conv rfl Tryz.underlying3 Tryz.underlying5 (vl rfl)) ?_
 refine ap ?_
 refine TO.pad ?_
 refine TO.efs 0 rfl rfl (by decide) (ef_append rfl rfl (by decide) rfl Tryz.underlying176 sz5 by5 z5 rfl (by decide) ⟨_, rfl, full_le _ _⟩ (vl rfl) (by simp only [List.length_append, List.length_replicate, List.length_map, List.length_cons, List.length_nil]; unfold maxLen; omega) (by simp only [List.length_append, List.length_replicate, List.length_map, List.length_cons, List.length_nil]; omega) (appR_full (by exact List.Mem.head _) (vl rfl))) (fun v1 => ?_)
 refine ap ?_
 refine ac ?_
 refine co rfl (ok_shr8 rfl (vl rfl) (vl rfl) (by omega)) ?_
 refine ac ?_
 refine Fin.drop 0 (Fin.famD3V0 (x / 256) (IntKind.u8.wrap x) (h :: t)  ((int_step hx0 (by omega) hmu)) ⟨ke rfl, ⟨_, rfl, Pr.le_trans (andIs_le _ _) (Pr.le_of_eq rfl)⟩, ke rfl, trivial⟩ (fun _ _ h => h))
 refine ac ?_
 refine Ch.cs 19 rfl ?_ ?_ <;> intro h3 q3
 refine cym h3 rfl ?_
 refine cy h3 rfl (ok_indexAddr rfl Tryz.underlying176 sz5 (vl rfl) (vl rfl) (by omega) (row_at (k := 0) rfl)) ?_
 refine ac ?_
 refine Ch.cs 26 rfl ?_ ?_ <;> intro h4 q4
 refine ac ?_
 refine wk4 2 3 4 35 rfl ?_
 refine ac ?_
 refine ap ?_
 refine tp rfl (ok_conv rfl Tryz.underlying3 Tryz.underlying5 (vl rfl)) ?_
 refine ap ?_
 refine TO.pad ?_
 refine TO.efs 0 rfl rfl (by decide) (ef_append rfl rfl (by decide) rfl Tryz.underlying176 sz5 by5 z5 rfl (by decide) ⟨_, rfl, full_le _ _⟩ (vl rfl) (by simp only [List.length_append, List.length_replicate, List.length_map, List.length_cons, List.length_nil]; unfold maxLen; omega) (by simp only [List.length_append, List.length_replicate, List.length_map, List.length_cons, List.length_nil]; omega) (appR_full (by exact List.Mem.head _) (vl rfl))) (fun v2 => ?_)
 refine ap ?_
 refine ac ?_
 refine co rfl (ok_shr8 rfl (vl rfl) (vl rfl) (by omega)) ?_
 refine ac ?_
 refine Fin.drop 0 (Fin.famD3V0 (x / 256) (IntKind.u8.wrap x) (h :: t)  ((int_step hx0 (by omega) hmu)) ⟨ke rfl, ⟨_, rfl, Pr.le_trans (andIs_le _ _) (Pr.le_of_eq rfl)⟩, ke rfl, trivial⟩ (fun _ _ h => h))
 refine ac ?_
 refine Ch.cs 29 rfl ?_ ?_ <;> intro h5 q5
 refine cym h5 rfl ?_
 refine cy h5 rfl (ok_indexAddr rfl Tryz.underlying176 sz5 (vl rfl) (vl rfl) (by omega) (row_at (k := 0) rfl)) ?_
 refine ac ?_
 refine wk4 2 3 4 35 rfl ?_
 refine Tr.cn rfl ?_ ?_ <;> intro h6 q6
 have hc_ := h6
 refine ac ?_
 refine ap ?_
 refine tp rfl (ok_conv rfl Tryz.underlying3 Tryz.underlying5 (vl rfl)) ?_
 refine ap ?_
 refine TO.pad ?_
 refine TO.efs 0 rfl rfl (by decide) (ef_append rfl rfl (by decide) rfl Tryz.underlying176 sz5 by5 z5 rfl (by decide) ⟨_, rfl, full_le _ _⟩ (vl rfl) (by simp only [List.length_append, List.length_replicate, List.length_map, List.length_cons, List.length_nil]; unfold maxLen; omega) (by simp only [List.length_append, List.length_replicate, List.length_map, List.length_cons, List.length_nil]; omega) (appR_full (by exact List.Mem.head _) (vl rfl))) (fun v3 => ?_)
 refine ap ?_
 refine ac ?_
 refine co rfl (ok_shr8 rfl (vl rfl) (vl rfl) (by omega)) ?_
 refine ac ?_
 refine Fin.drop 0 (Fin.famD3V0 (x / 256) (IntKind.u8.wrap x) (h :: t)  ((int_step hx0 (by omega) hmu)) ⟨ke rfl, ⟨_, rfl, Pr.le_trans (andIs_le _ _) (Pr.le_of_eq rfl)⟩, ke rfl, trivial⟩ (fun _ _ h => h))
 have hc_ := h6
 refine ac ?_
 refine ap ?_
 refine Tr.ret (Fin.retX1 rfl (RVal.cell 0 rfl rfl agg195 sz195 rfl (Pr.le_refl _)) ?_)
 · exact agg_le ⟨is_anyK _ _, bytesE_in (m := (h :: t).length) (by simp only [List.length_cons]; omega) bts_of, ex_in _ (Pr.le_refl _), nil_slice 4, trivial⟩
 refine ac ?_
 refine wk4 2 3 4 35 rfl ?_
 refine ac ?_
 refine ap ?_
 refine Tr.ret (Fin.retX1 rfl (RVal.cell 0 rfl rfl agg195 sz195 rfl (Pr.le_refl _)) ?_)
 · exact agg_le ⟨is_anyK _ _, bytesE_in (m := (h :: t).length) (by simp only [List.length_cons]; omega) bts_of, ex_in _ (Pr.le_refl _), nil_slice 4, trivial⟩
 refine ac ?_
 refine Ch.cs 29 rfl ?_ ?_ <;> intro h7 q7
 refine cym h7 rfl ?_
 refine cy h7 rfl (ok_indexAddr rfl Tryz.underlying176 sz5 (vl rfl) (vl rfl) (by omega) (row_at (k := 0) rfl)) ?_
 refine ac ?_
 refine wk4 2 3 4 35 rfl ?_
 refine Tr.cn rfl ?_ ?_ <;> intro h8 q8
 have hc_ := h8
 refine ac ?_
 refine ap ?_
 refine tp rfl (ok_conv rfl Tryz.underlying3 Tryz.underlying5 (vl rfl)) ?_
 refine ap ?_
 refine TO.pad ?_
 refine TO.efs 0 rfl rfl (by decide) (ef_append rfl rfl (by decide) rfl Tryz.underlying176 sz5 by5 z5 rfl (by decide) ⟨_, rfl, full_le _ _⟩ (vl rfl) (by simp only [List.length_append, List.length_replicate, List.length_map, List.length_cons, List.length_nil]; unfold maxLen; omega) (by simp only [List.length_append, List.length_replicate, List.length_map, List.length_cons, List.length_nil]; omega) (appR_full (by exact List.Mem.head _) (vl rfl))) (fun v4 => ?_)
 refine ap ?_
 refine ac ?_
 refine co rfl (ok_shr8 rfl (vl rfl) (vl rfl) (by omega)) ?_
 refine ac ?_
 refine Fin.drop 0 (Fin.famD3V0 (x / 256) (IntKind.u8.wrap x) (h :: t)  ((int_step hx0 (by omega) hmu)) ⟨ke rfl, ⟨_, rfl, Pr.le_trans (andIs_le _ _) (Pr.le_of_eq rfl)⟩, ke rfl, trivial⟩ (fun _ _ h => h))
 have hc_ := h8
 refine ac ?_
 refine ap ?_
 refine Tr.ret (Fin.retX1 rfl (RVal.cell 0 rfl rfl agg195 sz195 rfl (Pr.le_refl _)) ?_)
 · exact agg_le ⟨is_anyK _ _, bytesE_in (m := (h :: t).length) (by simp only [List.length_cons]; omega) bts_of, ex_in _ (Pr.le_refl _), nil_slice 4, trivial⟩
 refine ac ?_
 refine wk4 2 3 4 35 rfl ?_
 refine ac ?_
 refine ap ?_
 refine Tr.ret (Fin.retX1 rfl (RVal.cell 0 rfl rfl agg195 sz195 rfl (Pr.le_refl _)) ?_)
 · exact agg_le ⟨is_anyK _ _, bytesE_in (m := (h :: t).length) (by simp only [List.length_cons]; omega) bts_of, ex_in _ (Pr.le_refl _), nil_slice 4, trivial⟩
 refine ac ?_
 refine Ch.cs 19 rfl ?_ ?_ <;> intro h9 q9
 refine cym h9 rfl ?_
 refine cy h9 rfl (ok_indexAddr rfl Tryz.underlying176 sz5 (vl rfl) (vl rfl) (by omega) (row_at (k := 0) rfl)) ?_
 refine ac ?_
 refine Ch.cs 26 rfl ?_ ?_ <;> intro h10 q10
 refine ac ?_
 refine wk4 2 3 4 35 rfl ?_
 refine ac ?_
 refine ap ?_
 refine tp rfl (ok_conv rfl Tryz.underlying3 Tryz.underlying5 (vl rfl)) ?_
 refine ap ?_
 refine TO.pad ?_
 refine TO.efs 0 rfl rfl (by decide) (ef_append rfl rfl (by decide) rfl Tryz.underlying176 sz5 by5 z5 rfl (by decide) ⟨_, rfl, full_le _ _⟩ (vl rfl) (by simp only [List.length_append, List.length_replicate, List.length_map, List.length_cons, List.length_nil]; unfold maxLen; omega) (by simp only [List.length_append, List.length_replicate, List.length_map, List.length_cons, List.length_nil]; omega) (appR_full (by exact List.Mem.head _) (vl rfl))) (fun v5 => ?_)
 refine ap ?_
 refine ac ?_
 refine co rfl (ok_shr8 rfl (vl rfl) (vl rfl) (by omega)) ?_
 refine ac ?_
 refine Fin.drop 0 (Fin.famD3V0 (x / 256) (IntKind.u8.wrap x) (h :: t)  ((int_step hx0 (by omega) hmu)) ⟨ke rfl, ⟨_, rfl, Pr.le_trans (andIs_le _ _) (Pr.le_of_eq rfl)⟩, ke rfl, trivial⟩ (fun _ _ h => h))
 refine ac ?_
 refine Ch.cs 29 rfl ?_ ?_ <;> intro h11 q11
 refine cym h11 rfl ?_
 refine cy h11 rfl (ok_indexAddr rfl Tryz.underlying176 sz5 (vl rfl) (vl rfl) (by omega) (row_at (k := 0) rfl)) ?_
 refine ac ?_
 refine wk4 2 3 4 35 rfl ?_
 refine Tr.cn rfl ?_ ?_ <;> intro h12 q12
 have hc_ := h12
 refine ac ?_
 refine ap ?_
 refine tp rfl (ok_conv rfl Tryz.underlying3 Tryz.underlying5 (vl rfl)) ?_
 refine ap ?_
 refine TO.pad ?_
 refine TO.efs 0 rfl rfl (by decide) (ef_append rfl rfl (by decide) rfl Tryz.underlying176 sz5 by5 z5 rfl (by decide) ⟨_, rfl, full_le _ _⟩ (vl rfl) (by simp only [List.length_append, List.length_replicate, List.length_map, List.length_cons, List.length_nil]; unfold maxLen; omega) (by simp only [List.length_append, List.length_replicate, List.length_map, List.length_cons, List.length_nil]; omega) (appR_full (by exact List.Mem.head _) (vl rfl))) (fun v6 => ?_)
 refine ap ?_
 refine ac ?_
 refine co rfl (ok_shr8 rfl (vl rfl) (vl rfl) (by omega)) ?_
 refine ac ?_
 refine Fin.drop 0 (Fin.famD3V0 (x / 256) (IntKind.u8.wrap x) (h :: t)  ((int_step hx0 (by omega) hmu)) ⟨ke rfl, ⟨_, rfl, Pr.le_trans (andIs_le _ _) (Pr.le_of_eq rfl)⟩, ke rfl, trivial⟩ (fun _ _ h => h))
 have hc_ := h12
 refine ac ?_
 refine ap ?_
 refine Tr.ret (Fin.retX1 rfl (RVal.cell 0 rfl rfl agg195 sz195 rfl (Pr.le_refl _)) ?_)
 · exact agg_le ⟨is_anyK _ _, bytesE_in (m := (h :: t).length) (by simp only [List.length_cons]; omega) bts_of, ex_in _ (Pr.le_refl _), nil_slice 4, trivial⟩
 refine ac ?_
 refine wk4 2 3 4 35 rfl ?_
 refine ac ?_
 refine ap ?_
 refine Tr.ret (Fin.retX1 rfl (RVal.cell 0 rfl rfl agg195 sz195 rfl (Pr.le_refl _)) ?_)
 · exact agg_le ⟨is_anyK _ _, bytesE_in (m := (h :: t).length) (by simp only [List.length_cons]; omega) bts_of, ex_in _ (Pr.le_refl _), nil_slice 4, trivial⟩
 refine ac ?_
 refine Ch.cs 29 rfl ?_ ?_ <;> intro h13 q13
 refine cym h13 rfl ?_
 refine cy h13 rfl (ok_indexAddr rfl Tryz.underlying176 sz5 (vl rfl) (vl rfl) (by omega) (row_at (k := 0) rfl)) ?_
 refine ac ?_
 refine wk4 2 3 4 35 rfl ?_
 refine Tr.cn rfl ?_ ?_ <;> intro h14 q14
 have hc_ := h14
 refine ac ?_
 refine ap ?_
 refine tp rfl (ok_conv rfl Tryz.underlying3 Tryz.underlying5 (vl rfl)) ?_
 refine ap ?_
 refine TO.pad ?_
 refine TO.efs 0 rfl rfl (by decide) (ef_append rfl rfl (by decide) rfl Tryz.underlying176 sz5 by5 z5 rfl (by decide) ⟨_, rfl, full_le _ _⟩ (vl rfl) (by simp only [List.length_append, List.length_replicate, List.length_map, List.length_cons, List.length_nil]; unfold maxLen; omega) (by simp only [List.length_append, List.length_replicate, List.length_map, List.length_cons, List.length_nil]; omega) (appR_full (by exact List.Mem.head _) (vl rfl))) (fun v7 => ?_)
 refine ap ?_
 refine ac ?_
 refine co rfl (ok_shr8 rfl (vl rfl) (vl rfl) (by omega)) ?_
 refine ac ?_
 refine Fin.drop 0 (Fin.famD3V0 (x / 256) (IntKind.u8.wrap x) (h :: t)  ((int_step hx0 (by omega) hmu)) ⟨ke rfl, ⟨_, rfl, Pr.le_trans (andIs_le _ _) (Pr.le_of_eq rfl)⟩, ke rfl, trivial⟩ (fun _ _ h => h))
 have hc_ := h14
 refine ac ?_
 refine ap ?_
 refine Tr.ret (Fin.retX1 rfl (RVal.cell 0 rfl rfl agg195 sz195 rfl (Pr.le_refl _)) ?_)
 · exact agg_le ⟨is_anyK _ _, bytesE_in (m := (h :: t).length) (by simp only [List.length_cons]; omega) bts_of, ex_in _ (Pr.le_refl _), nil_slice 4, trivial⟩
 refine ac ?_
 refine wk4 2 3 4 35 rfl ?_
 refine ac ?_
 refine ap ?_
 refine Tr.ret (Fin.retX1 rfl (RVal.cell 0 rfl rfl agg195 sz195 rfl (Pr.le_refl _)) ?_)
 · exact agg_le ⟨is_anyK _ _, bytesE_in (m := (h :: t).length) (by simp only [List.length_cons]; omega) bts_of, ex_in _ (Pr.le_refl _), nil_slice 4, trivial⟩
theorem w_rText {s : List UInt8} (hs : s.length ≤ 1000) : Fun Tryz.prog 213 [str s] (agg (rowQ q0)) := by
 refine fo Tryz.func213 rfl ⟨rfl, rfl⟩ fun M0 w0 => (Tr.seq (Tr.regT ?_))
 refine TO.alloc rfl rfl (by decide) rfl z195 zo195 (fun b1 => ?_)
 refine ap ?_
 refine ap ?_
 refine tp rfl (ok_bytes rfl Tryz.underlying9 Tryz.underlying176 Tryz.underlying5 (vl rfl) (by unfold maxLen; omega)) ?_
 refine ap ?_
 refine Tr.ret (Fin.retX1 rfl (RVal.cell 0 rfl rfl agg195 sz195 rfl (Pr.le_refl _)) ?_)
 · exact agg_le ⟨is_anyK _ _, bytesE_in (m := s.length) (by omega) (bts_of (f := fun c : UInt8 => ((c.toNat : Nat) : Int))), ex_in _ (Pr.le_refl _), nil_slice 4, trivial⟩
theorem w_rBool {b : Bool}  : Fun Tryz.prog 217 [bool b] (agg (rowQ q0)) := by
 refine fo Tryz.func217 rfl ⟨rfl, rfl⟩ fun M0 w0 => (Tr.seq (Tr.regT ?_))
 refine TO.alloc rfl rfl (by decide) rfl z195 zo195 (fun b1 => ?_)
 refine ap ?_
 refine ac ?_
 refine Tr.cn rfl ?_ ?_ <;> intro h1 q1
 refine ap ?_
 refine tp rfl (ok_build (rows := [(0, [_]), (1, [_])]) rfl bl195 zo195 ⟨⟨rfl, (VL.le (vl rfl) (one_cellsP _))⟩, ⟨⟨rfl, ⟨_, rfl, Pr.le_trans (full_le _ _) (one_cellsP _)⟩⟩, trivial⟩⟩ rfl) ?_
 refine ap ?_
 refine Tr.ret (Fin.then_ret (Fin.retX1 rfl (RVal.cell 0 rfl rfl agg195 sz195 rfl (Pr.le_refl _)) ?_))
 · exact agg_le ⟨is_anyK _ _, bytesE_in (m := 1) (by omega) (bts_one _), ex_in _ (Pr.le_refl _), nil_slice 4, trivial⟩
 refine ac ?_
 refine ap ?_
 refine tp rfl (ok_build (rows := [(0, [_]), (1, [_])]) rfl bl195 zo195 ⟨⟨rfl, (VL.le (vl rfl) (one_cellsP _))⟩, ⟨⟨rfl, ⟨_, rfl, Pr.le_trans (full_le _ _) (one_cellsP _)⟩⟩, trivial⟩⟩ rfl) ?_
 refine ap ?_
 refine Tr.ret (Fin.retX1 rfl (RVal.cell 0 rfl rfl agg195 sz195 rfl (Pr.le_refl _)) ?_)
 · exact agg_le ⟨is_anyK _ _, bytesE_in (m := 1) (by omega) (bts_one _), ex_in _ (Pr.le_refl _), nil_slice 4, trivial⟩
theorem w_rcopies {m : Nat} {q : Pr} [One q]  (hm : m ≤ 20) (ih : m = 0 ∨ Fun Tryz.prog 249 [q] q) : Fun Tryz.prog 249 [slice 4 (List.replicate m (rowQ q))] (slice 4 (List.replicate m (rowQ q))) := by
 refine Fun.of Tryz.func249 rfl rfl (by exact Nat.le_of_ble_eq_true rfl) fun M0 w0 => ?_
 have hlr : (List.replicate m (rowQ q)).length = m := List.length_replicate
 refine Tr.seq (Tr.reg0 (cm rfl (Ch.nil (Fin.go (Tr.seq (Tr.reg0 (cm rfl (Ch.nil (Fin.go (Tr.seq (Tr.seq (Tr.reg0 (cm rfl ?_)))))))))))))
 refine Ch.nil (Fin.go (Tr.block (Tr.addnil 195 4 (Tr.loopV1 [(0, _)] ⟨ke rfl, trivial⟩ (fun k v => [(4, int ((k : Nat) : Int)), (3, andIs v (slice 4 (List.replicate k (rowQ q))))]) (fun k v => Hp M0 w0 noS ([appRes 195 4 v])) (fun k : Nat => k ≤ ((List.replicate m (rowQ q)).length)) (fun k : Nat => ((List.replicate m (rowQ q)).length) - k) 0 (.slice none 0 0) (Nat.zero_le _) ⟨ke rfl, ⟨_, rfl, own_nil rfl⟩, trivial⟩ (fun _ _ h => h) ?_))))
 rintro k v hle_k
 refine Tr.seq (Tr.seq (Tr.reg0 (cm rfl (cm rfl (co rfl (ok_len rfl Tryz.underlying193 (vl rfl)) (co rfl (ki rfl rfl rfl rfl) (Ch.nil (Fin.go ?_))))))))
 refine Tr.cn rfl ?_ ?_ <;> intro h1 q1
 have hk_k : k < ((List.replicate m (rowQ q)).length) := lt_of_dec h1
 have hkm : k < m := by simpa using hk_k
 have ih2 := ih.resolve_left (by omega)
 refine Tr.skip (Fin.go (Tr.seq (Tr.block (Tr.seq (Tr.regT (tm rfl (tm rfl (tp rfl (ok_indexAddr rfl Tryz.underlying193 sz195 (vl rfl) (vl rfl) (by omega) (rep_at hkm)) (tp rfl (ok_loadA rfl agg195 sz195 (vl rfl) rfl rfl) ?_)))))))))
 refine TO.alloc rfl rfl (by decide) rfl z195 zo195 (fun b1 => ?_)
 refine TO.store_all 0 rfl rfl rfl (vl rfl) (VL.le (vl rfl) (agg_cellsP _)) rfl sz195 rfl rfl (TO.nil (Fin.go (Tr.seq (Tr.regT (tp rfl (ok_buildSlice (xs := []) (rows := []) rfl rfl Tryz.underlying176 sz5 z5 rfl (by decide) trivial (by decide)) (tp rfl (okp_fieldAddr rfl fo195_1 (vl rfl)) (TO.rd 0 rfl rfl rfl (by decide) (rd_load1 rfl one176 (vl rfl) rfl) ?_)))))))
 refine TO.ex 18 rfl (fun z18 => TO.fact 18 rfl fun hz18 => ?_)
 refine TO.pad ?_
 refine TO.efs 0 rfl rfl (by decide) (ef_append rfl rfl (by decide) rfl Tryz.underlying176 sz5 by5 z5 rfl (by decide) ⟨_, rfl, full_le _ _⟩ (vl rfl) (by simp only [List.length_append, List.length_replicate, List.length_cons, List.length_nil]; unfold maxLen; omega) (by simp only [List.length_append, List.length_replicate, List.length_cons, List.length_nil]; omega) (appR_full (by exact List.Mem.head _) (vl rfl))) (fun v1 => ?_)
 refine tp rfl (okp_fieldAddr rfl fo195_1 (vl rfl)) (TO.ef0 1 rfl rfl (ef_store rfl rfl (vl rfl) (VL.le (vl rfl) (one_cellsP _)) sz176 rfl (by exact Nat.le_of_ble_eq_true rfl) rfl) (TO.nil (Fin.go (wk4 0 3 4 5 rfl (Tr.seq (Tr.regT (tp rfl (okp_fieldAddr rfl fo195_3 (vl rfl)) (TO.rd 1 rfl rfl rfl (by decide) (rd_load1 rfl one193 (vl rfl) rfl) (tp rfl (ok_call rfl (ih2) ⟨ke rfl, trivial⟩) (tp rfl (okp_fieldAddr rfl fo195_3 (vl rfl)) (TO.ef0 1 rfl rfl (ef_store rfl rfl (vl rfl) (VL.le (vl rfl) (one_cellsP _)) sz193 rfl (by exact Nat.le_of_ble_eq_true rfl) rfl) (TO.nil (Fin.go (Tr.regT ?_))))))))))))))
 refine tm rfl (TO.rd 1 rfl rfl rfl (by decide) (rd_loadA rfl agg195 sz195 (vl rfl) rfl rfl) (tp rfl (ok_buildSlice (xs := [.tmp 26]) (rows := [rowQ q]) rfl rfl Tryz.underlying193 sz195 z195 rfl (by decide) ⟨⟨(by exact rfl), VL.le (vl rfl) (Pr.le_trans (agg_le (qs := rowQ q) ⟨Pr.le_refl _, bytesE_in (m := z18) (by omega) (Pr.le_trans (andIs_le _ _) (Pr.le_of_eq rfl)), Pr.le_refl _, Pr.le_refl _, trivial⟩) (agg_cellsP _))⟩, trivial⟩ (by decide)) ?_))
 refine TO.efs 2 rfl rfl (by decide) (ef_append rfl rfl (by decide) rfl Tryz.underlying193 sz195 by195 z195 rfl (by decide) ⟨_, rfl, andIs_le _ _⟩ ⟨_, rfl, full_le _ _⟩ (by simp only [List.length_append, List.length_replicate, List.length_cons, List.length_nil]; unfold maxLen; omega) (by simp only [List.length_append, List.length_replicate, List.length_cons, List.length_nil]; omega) (appR_is (by exact List.Mem.head _) ⟨_, rfl, andIs_is _ _⟩)) (fun v2 => ?_)
 refine tm rfl (TO.nil (Fin.block (Fin.go (Tr.drop 1 (Tr.reg0 (cm rfl (cad rfl rfl rfl rfl (by omega) (cm rfl (Ch.nil (Fin.drop 0 (Fin.famV1 (k + 1) v2 (⟨hk_k, by omega⟩) ⟨⟨_, rfl, int_succ k⟩, ⟨_, rfl, own_le (by rw [rep_one])⟩, ke rfl, trivial⟩ (fun _ _ h => h))))))))))))
 have he_k : k = ((List.replicate m (rowQ q)).length) := by have := ge_of_dec h1; omega
 refine Tr.exit (Fin.then_exit (Fin.then_exit (Fin.block_here (Fin.go (Tr.seq (Tr.reg0 (cm rfl (cm rfl (Ch.nil (Fin.go (Tr.ret (Fin.ret1 rfl (OutW.bse _ _) rfl ?_))))))))))))
 · exact Pr.le_trans (andIs_le _ _) (Pr.le_of_eq (by rw [he_k, hlr]))
theorem w_rList {m : Nat} {q : Pr}  (hm : m ≤ 20) (hc : Fun Tryz.prog 249 [slice 4 (List.replicate m (rowQ q))] (slice 4 (List.replicate m (rowQ q)))) : Fun Tryz.prog 214 [slice 4 (List.replicate m (rowQ q))] (agg (rowQ (elemsE (rowQ q)))) := by
 refine fo Tryz.func214 rfl ⟨rfl, rfl⟩ fun M0 w0 => (Tr.seq (Tr.regT ?_))
 refine TO.alloc rfl rfl (by decide) rfl z195 zo195 (fun b1 => ?_)
 refine ap ?_
 refine ap ?_
 refine tp rfl (kc1 (hc) rfl rfl) ?_
 refine ap ?_
 refine Tr.ret (Fin.retX1 rfl (RVal.cell 0 rfl rfl agg195 sz195 rfl (Pr.le_refl _)) ?_)
 · exact agg_le ⟨is_anyK _ _, bytesE_in (m := 0) (by omega) (nil_slice 1), ex_in _ (Pr.le_refl _), ex_in m (fact_in hm (Pr.le_refl _)), trivial⟩
end Go.Proofs.YtflodcidhlmaaaaGreat
namespace Go.Proofs.YtflodcidhlmaaaaGreat
open Go Go.RowKit Cp

structure Crt.vf (c : Crt) : Prop where
  s0 : 0 ≤ c.serial
  s1 : c.serial ≤ 1099511627776
  iss : named c.issuer = true
  sub : named c.subject = true
  nm : namesB c.names = true
  key : ofB c.kalg c.kbits 2 = true
  k0 : 0 ≤ c.keyId
  k1 : c.keyId ≤ 2147483648
  hash : ofB c.halg c.hbits 1 = true
  sk0 : 0 ≤ c.skey
  sk1 : c.skey ≤ 2147483648
  su0 : 0 ≤ c.ssum
  su1 : c.ssum < 4294967296
  f0 : 0 ≤ c.from_
  ft : c.from_ ≤ c.to_
  t1 : c.to_ ≤ 40000
  p0 : 0 ≤ c.path
  p1 : c.path ≤ 8
  ap : c.auth = true ∨ c.path = 0
theorem vf_of {c : Crt} (hv : validB c = true) : c.vf := by
  simp only [validB, keyB, sumB, Bool.and_eq_true, Bool.or_eq_true, decide_eq_true_eq, beq_iff_eq] at hv
  obtain ⟨⟨⟨⟨⟨⟨⟨h1, h2⟩, h3⟩, h4⟩, h5⟩, ⟨⟨⟨⟨h6, ⟨h7, h8⟩⟩, h9⟩, ⟨h10, h11⟩⟩, ⟨h12, h13⟩⟩⟩, ⟨⟨h14, h15⟩, h16⟩⟩, ⟨⟨h17, h18⟩, h19⟩⟩ := hv
  exact ⟨h1, h2, h3, h4, h5, h6, h7, h8, h9, h10, h11, h12, h13, h14, h15, h16, h17, h18, h19⟩
theorem of_vf {c : Crt} (h : c.vf) : validB c = true := by
  simp only [validB, keyB, sumB, Bool.and_eq_true, Bool.or_eq_true, decide_eq_true_eq, beq_iff_eq]
  exact ⟨⟨⟨⟨⟨⟨⟨h.s0, h.s1⟩, h.iss⟩, h.sub⟩, h.nm⟩, ⟨⟨⟨⟨h.key, ⟨h.k0, h.k1⟩⟩, h.hash⟩, ⟨h.sk0, h.sk1⟩⟩, ⟨h.su0, h.su1⟩⟩⟩, ⟨⟨h.f0, h.ft⟩, h.t1⟩⟩, ⟨⟨h.p0, h.p1⟩, h.ap⟩⟩
theorem of_iff {a b k : Int} (h : ofB a b k = true) : decide (strength a b > 0) = true ∧ (catOf a).kind = k := by
  unfold ofB at h; simpa using h


theorem name_at {l : List (List UInt8)} {k : Nat} {s : List UInt8} (h : nameAt l k = true) (hs : l[k]? = some s) : named s = true := by
  unfold nameAt at h; rw [hs] at h; simp at h; exact h.1
theorem name_lt {l : List (List UInt8)} {k : Nat} {s y : List UInt8} (h : nameAt l k = true) (hs : l[k]? = some s) (hy : l[k - 1]? = some y) (hk : 0 < k) : decide (Lib.compareBytes y s = -1) = true := by
  unfold nameAt at h; rw [hs, hy] at h; simp at h
  rcases h.2 with h2 | h2
  · omega
  · simpa using h2

theorem w_R3Check {c : Crt} (hv : validB c = true) : Fun Tryz.prog 112 [agg (rowCr c)] (int 0) := by
 refine fo Tryz.func112 rfl ⟨rfl, rfl⟩ fun M0 w0 => ?_
 obtain ⟨hs0, hs1, hiss, hsub, hnm, hkey, hk0, hk1, hhash, hsk0, hsk1, hsu0, hsu1, hf0, hft, ht1, hp0, hp1, hap⟩ := vf_of hv
 obtain ⟨hkey1, hkey2⟩ := of_iff hkey
 obtain ⟨hh1, hh2⟩ := of_iff hhash
 have hnm2 := hnm
 unfold namesB at hnm2
 rw [Bool.and_eq_true, allI_iff, decide_eq_true_eq] at hnm2
 obtain ⟨hall, hlen8⟩ := hnm2
 refine ac ?_
 refine ac ?_
 refine Ch.cs 7 rfl ?_ ?_ <;> intro h1 q1
 exfalso; have := q1; omega
 refine ac ?_
 refine Ch.cs 12 rfl ?_ ?_ <;> intro h2 q2
 exfalso; have := q2; omega
 refine ac ?_
 refine cy h2 rfl (kc1 (w_RName) rfl rfl) ?_
 refine ac ?_
 refine Ch.cs 18 rfl ?_ ?_ <;> intro h3 q3
 rw [hiss] at h3; exact absurd h3 (by decide)
 refine ac ?_
 refine cy h3 rfl (kc1 (w_RName) rfl rfl) ?_
 refine ac ?_
 refine Ch.cs 24 rfl ?_ ?_ <;> intro h4 q4
 rw [hsub] at h4; exact absurd h4 (by decide)
 refine ac ?_
 refine cy h4 rfl (kc1 (w_Signature) rfl rfl) ?_
 refine ac ?_
 refine Ch.cs 30 rfl ?_ ?_ <;> intro h5 q5
 rw [hkey1, hkey2] at h5; exact absurd h5 (by decide)
 refine ac ?_
 refine Ch.cs 35 rfl ?_ ?_ <;> intro h6 q6
 exfalso; have := q6; omega
 refine ac ?_
 refine wk2 1 39 rfl ?_
 refine Tr.cn rfl ?_ ?_ <;> intro h7 q7
 exfalso; have := q7; omega
 refine ac ?_
 refine ac ?_
 refine co rfl (kc1 (w_RValid) rfl rfl) ?_
 refine ac ?_
 refine Ch.cs 44 rfl ?_ ?_ <;> intro h8 q8
 rw [hh1] at h8; exact absurd h8 (by decide)
 refine ac ?_
 refine cy h8 rfl (kc1 (w_RKind) rfl rfl) ?_
 refine ac ?_
 refine Ch.cs 51 rfl ?_ ?_ <;> intro h9 q9
 rw [hh2] at h9; exact absurd h9 (by decide)
 refine ac ?_
 refine Ch.cs 56 rfl ?_ ?_ <;> intro h10 q10
 exfalso; have := q10; omega
 refine ac ?_
 refine Ch.cs 63 rfl ?_ ?_ <;> intro h11 q11
 exfalso; have := q11; omega
 refine ac ?_
 refine wk2 1 67 rfl ?_
 refine Tr.cn rfl ?_ ?_ <;> intro h12 q12
 exfalso; have := q12; omega
 refine ac ?_
 refine ac ?_
 refine Ch.cs 71 rfl ?_ ?_ <;> intro h13 q13
 exfalso; have := q13; omega
 refine ac ?_
 refine Ch.cs 76 rfl ?_ ?_ <;> intro h14 q14
 exfalso; have := q14; omega
 refine ac ?_
 refine Ch.cs 80 rfl ?_ ?_ <;> intro h15 q15
 refine ac ?_
 refine Ch.cs 86 rfl ?_ ?_ <;> intro h16 q16
 exfalso; have := q16; simp_all
 refine ac ?_
 refine wk2 1 91 rfl ?_
 refine Tr.cn rfl ?_ ?_ <;> intro h17 q17
 exfalso; have := q17; omega
 refine ac ?_
 refine ac ?_
 refine Tr.block (Tr.loopw [(1, _)] ⟨ke rfl, trivial⟩ (fun k : Nat => [(3, int ((k : Nat) : Int))]) (fun k : Nat => k ≤ (c.names).length) (fun k : Nat => (c.names).length - k) 0 (Nat.zero_le _) ⟨ke rfl, trivial⟩ ?_)
 rintro k hle_k
 refine ac ?_
 refine Tr.cn rfl ?_ ?_ <;> intro h18 q18
 have hk_k : k < (c.names).length := lt_of_dec h18
 obtain ⟨s, hx_k⟩ := at_ hk_k
 have hat := hall k (by omega)
 have hna := name_at hat hx_k
 refine ac ?_
 refine ac ?_
 refine co rfl (ok_indexAddr rfl Tryz.underlying83 sz9 (vl rfl) (vl rfl) (by omega) (row_at hx_k)) (co rfl (kl1 rfl one9 rfl) (co rfl (kc1 (w_RName) rfl rfl) ?_))
 refine ac ?_
 refine Ch.cs 106 rfl ?_ ?_ <;> intro h19 q19
 exfalso; rw [hna] at h19; exact absurd h19 (by decide)
 refine ac ?_
 refine Ch.cs 109 rfl ?_ ?_ <;> intro h20 q20
 have hk00 : 0 < k := by simpa using h20
 obtain ⟨y, hy⟩ := at_ (l := c.names) (k := k - 1) (by omega)
 have hlt := name_lt hat hx_k hy hk00
 refine ac ?_
 refine cy h20 rfl (ok_indexAddr rfl Tryz.underlying83 sz9 (vl rfl) (vl rfl) (by omega) (by rw [show ((k : Nat) : Int) - 1 = ((k - 1 : Nat) : Int) by omega]; exact row_at hy)) ?_
 refine ac ?_
 refine cy h20 rfl (ok_indexAddr rfl Tryz.underlying83 sz9 (vl rfl) (vl rfl) (by omega) (row_at hx_k)) (cy h20 rfl (kl1 rfl one9 rfl) (cy h20 rfl (ok_ges rfl (vl rfl) (vl rfl)) ?_))
 refine ac ?_
 refine wk3 1 3 123 rfl ?_
 refine Tr.cn rfl ?_ ?_ <;> intro h21 q21
 exfalso; rw [hlt] at h21; exact absurd h21 (by decide)
 refine ac ?_
 refine ac ?_
 exact Fin.fam_same (k + 1) ⟨hk_k, by omega⟩ ⟨⟨_, rfl, int_succ k⟩, ke rfl, trivial⟩
 refine ac ?_
 refine wk3 1 3 123 rfl ?_
 refine ac ?_
 refine ac ?_
 exact Fin.fam_same (k + 1) ⟨hk_k, by omega⟩ ⟨⟨_, rfl, int_succ k⟩, ke rfl, trivial⟩
 have he_k : k = (c.names).length := by have := ge_of_dec h18; omega
 refine ac ?_
 refine ac ?_
 refine Ch.cs 128 rfl ?_ ?_ <;> intro h22 q22
 exfalso; have := q22; omega
 refine ac ?_
 refine Ch.cs 134 rfl ?_ ?_ <;> intro h23 q23
 exfalso; have := q23; omega
 refine ac ?_
 refine Ch.cs 140 rfl ?_ ?_ <;> intro h24 q24
 exfalso; have := q24; omega
 refine ac ?_
 refine wk1 145 rfl ?_
 refine Tr.cn rfl ?_ ?_ <;> intro h25 q25
 exfalso; have := q25; omega
 refine ac ?_
 refine ac ?_
 refine ac ?_
 · exact Pr.le_refl _
 refine ac ?_
 refine wk2 1 91 rfl ?_
 refine Tr.cn rfl ?_ ?_ <;> intro h26 q26
 exfalso; have := q26; omega
 refine ac ?_
 refine ac ?_
 refine Tr.block (Tr.loopw [(1, _)] ⟨ke rfl, trivial⟩ (fun k : Nat => [(3, int ((k : Nat) : Int))]) (fun k : Nat => k ≤ (c.names).length) (fun k : Nat => (c.names).length - k) 0 (Nat.zero_le _) ⟨ke rfl, trivial⟩ ?_)
 rintro k hle_k
 refine ac ?_
 refine Tr.cn rfl ?_ ?_ <;> intro h27 q27
 have hk_k : k < (c.names).length := lt_of_dec h27
 obtain ⟨s, hx_k⟩ := at_ hk_k
 have hat := hall k (by omega)
 have hna := name_at hat hx_k
 refine ac ?_
 refine ac ?_
 refine co rfl (ok_indexAddr rfl Tryz.underlying83 sz9 (vl rfl) (vl rfl) (by omega) (row_at hx_k)) (co rfl (kl1 rfl one9 rfl) (co rfl (kc1 (w_RName) rfl rfl) ?_))
 refine ac ?_
 refine Ch.cs 106 rfl ?_ ?_ <;> intro h28 q28
 exfalso; rw [hna] at h28; exact absurd h28 (by decide)
 refine ac ?_
 refine Ch.cs 109 rfl ?_ ?_ <;> intro h29 q29
 have hk00 : 0 < k := by simpa using h29
 obtain ⟨y, hy⟩ := at_ (l := c.names) (k := k - 1) (by omega)
 have hlt := name_lt hat hx_k hy hk00
 refine ac ?_
 refine cy h29 rfl (ok_indexAddr rfl Tryz.underlying83 sz9 (vl rfl) (vl rfl) (by omega) (by rw [show ((k : Nat) : Int) - 1 = ((k - 1 : Nat) : Int) by omega]; exact row_at hy)) ?_
 refine ac ?_
 refine cy h29 rfl (ok_indexAddr rfl Tryz.underlying83 sz9 (vl rfl) (vl rfl) (by omega) (row_at hx_k)) (cy h29 rfl (kl1 rfl one9 rfl) (cy h29 rfl (ok_ges rfl (vl rfl) (vl rfl)) ?_))
 refine ac ?_
 refine wk3 1 3 123 rfl ?_
 refine Tr.cn rfl ?_ ?_ <;> intro h30 q30
 exfalso; rw [hlt] at h30; exact absurd h30 (by decide)
 refine ac ?_
 refine ac ?_
 exact Fin.fam_same (k + 1) ⟨hk_k, by omega⟩ ⟨⟨_, rfl, int_succ k⟩, ke rfl, trivial⟩
 refine ac ?_
 refine wk3 1 3 123 rfl ?_
 refine ac ?_
 refine ac ?_
 exact Fin.fam_same (k + 1) ⟨hk_k, by omega⟩ ⟨⟨_, rfl, int_succ k⟩, ke rfl, trivial⟩
 have he_k : k = (c.names).length := by have := ge_of_dec h27; omega
 refine ac ?_
 refine ac ?_
 refine Ch.cs 128 rfl ?_ ?_ <;> intro h31 q31
 exfalso; have := q31; omega
 refine ac ?_
 refine Ch.cs 134 rfl ?_ ?_ <;> intro h32 q32
 exfalso; have := q32; omega
 refine ac ?_
 refine Ch.cs 140 rfl ?_ ?_ <;> intro h33 q33
 exfalso; have := q33; omega
 refine ac ?_
 refine wk1 145 rfl ?_
 refine Tr.cn rfl ?_ ?_ <;> intro h34 q34
 exfalso; have := q34; omega
 refine ac ?_
 refine ac ?_
 refine ac ?_
 · exact Pr.le_refl _
end Go.Proofs.YtflodcidhlmaaaaGreat
namespace Go.Proofs.YtflodcidhlmaaaaGreat
open Go Go.RowKit Cp

abbrev u32R : Pr := Cp.ex fun n : Int => fact (0 ≤ n ∧ n < 4294967296) (is (.int .u32 n))
abbrev sumE : Pr := Cp.ex fun n : Int => fact (0 ≤ n ∧ n < 4294967296) (int n)
theorem u32_any : Pr.le u32R (anyK .u32) := fun _ _ _ ⟨n, _, h⟩ => ⟨n, h⟩
section
variable {P : Program} {I : Asn} {E : Env} {o : Oper}
theorem ok_convK {s t : TypeId} {x : Operand} {k k' : IntKind} (ho : o.op = .convert s t x) (hs : P.underlying s = some (.int k)) (ht : P.underlying t = some (.int k')) (hx : VL E x (anyK k)) : OpOK P I o E (anyK k') :=
  OpOK.same fun M w a he _ => by
    obtain ⟨n, h1⟩ := hx.ev he (by simp [ho, Op.operands])
    have h1 : a.eval x = .int k n := h1
    refine ⟨.int k' (k'.wrap n), ?_, _, rfl⟩
    simp [execOp, ho, h1, convert, run_underlying hs, run_underlying ht, Conv.intToInt, Sem.run_bind]
theorem ok_mulU {t u : TypeId} {x y : Operand} (ho : o.op = .binOp .mul t x y u) (hx : VL E x (anyK .u32)) (hy : VL E y (anyK .u32)) : OpOK P I o E u32R :=
  OpOK.same fun M w a he _ => by
    obtain ⟨m, h1⟩ := hx.ev he (by simp [ho, Op.operands])
    obtain ⟨n, h2⟩ := hy.ev he (by simp [ho, Op.operands])
    have h1 : a.eval x = .int .u32 m := h1
    have h2 : a.eval y = .int .u32 n := h2
    refine ⟨.int .u32 (IntKind.u32.wrap (m * n)), by simp [execOp, ho, h1, h2, eqGuard, binOp, Op.intArith], _, ?_, rfl⟩
    rw [IntKind.wrap_u32]; omega
theorem ok_conv32 {s t : TypeId} {x : Operand} (ho : o.op = .convert s t x) (hs : P.underlying s = some (.int .u32)) (ht : P.underlying t = some (.int .i64)) (hx : VL E x u32R) : OpOK P I o E sumE :=
  OpOK.same fun M w a he _ => by
    obtain ⟨n, hn, h1⟩ := hx.ev he (by simp [ho, Op.operands])
    have h1 : a.eval x = .int .u32 n := h1
    refine ⟨.int .i64 (IntKind.i64.wrap n), ?_, n, hn, by rw [wrap_in (by unfold InI; omega)]; rfl⟩
    simp [execOp, ho, h1, convert, run_underlying hs, run_underlying ht, Conv.intToInt, Sem.run_bind]
end
theorem Fun.elemsE {P : Program} {f : FuncId} {row : List Pr} (h : ∀ m, m ≤ 20 → Fun P f [slice 4 (List.replicate m row)] (slice 4 (List.replicate m row))) : Fun P f [Go.Proofs.YtflodcidhlmaaaaGreat.elemsE row] (Go.Proofs.YtflodcidhlmaaaaGreat.elemsE row) := by
  refine ⟨(h 0 (by omega)).1, fun M w vs hb hv => ?_⟩
  match vs, hv with
  | [u0], hv1 =>
    obtain ⟨⟨m, hm, h0⟩, _⟩ := hv1
    exact ((h m hm).2 M w [u0] hb ⟨h0, trivial⟩).mono fun e w' ⟨v, h1, h2, h3⟩ => ⟨v, h1, ⟨m, hm, h2⟩, h3⟩
theorem Fun.bytesE {P : Program} {f : FuncId} {B : Nat} {res : Pr} (h : ∀ m, m ≤ B → Fun P f [bts m] res) : Fun P f [Go.Proofs.YtflodcidhlmaaaaGreat.bytesE B] res := by
  refine ⟨(h 0 (by omega)).1, fun M w vs hb hv => ?_⟩
  match vs, hv with
  | [u0], hv1 =>
    obtain ⟨⟨m, hm, h0⟩, _⟩ := hv1
    exact (h m hm).2 M w [u0] hb ⟨h0, trivial⟩
abbrev qA1 : Pr := elemsE (rowQ q0)
abbrev qA2 : Pr := elemsE (rowQ qA1)
theorem q0_le : Pr.le q0 qA1 := ex_in 0 (fact_in (by omega) (Pr.le_refl _))
theorem rc0 : Fun Tryz.prog 249 [q0] q0 := w_rcopies (m := 0) (q := q0) (by omega) (.inl rfl)
theorem rc1 (m : Nat) (hm : m ≤ 20) : Fun Tryz.prog 249 [slice 4 (List.replicate m (rowQ q0))] (slice 4 (List.replicate m (rowQ q0))) := w_rcopies hm (.inr rc0)
theorem rc2 (m : Nat) (hm : m ≤ 20) : Fun Tryz.prog 249 [slice 4 (List.replicate m (rowQ qA1))] (slice 4 (List.replicate m (rowQ qA1))) := w_rcopies hm (.inr (Fun.elemsE rc1))
theorem rf0 : Fun Tryz.prog 210 [agg (rowQ q0)] anyB := Fun.rowQ0 fun t b n hb => w_rformed (m := 0) (q := q0) hb (by omega) (.inl rfl)
theorem rf1 : Fun Tryz.prog 210 [agg (rowQ qA1)] anyB := Fun.rowQ fun t b n m hb hm => w_rformed hb hm (.inr rf0)
theorem rf2 : Fun Tryz.prog 210 [agg (rowQ qA2)] anyB := Fun.rowQ fun t b n m hb hm => w_rformed hb hm (.inr rf1)
theorem rd0 : Fun Tryz.prog 211 [agg (rowQ q0)] (depthE 1) := Fun.rowQ0 fun t b n hb => w_rdepth (m := 0) (q := q0) (D := 0) hb (by omega) (by omega) (.inl rfl)
theorem rd1 : Fun Tryz.prog 211 [agg (rowQ qA1)] (depthE 2) := Fun.rowQ fun t b n m hb hm => w_rdepth hb hm (by omega) (.inr rd0)
theorem rd2 : Fun Tryz.prog 211 [agg (rowQ qA2)] (depthE 3) := Fun.rowQ fun t b n m hb hm => w_rdepth hb hm (by omega) (.inr rd1)
theorem rp0 : Fun Tryz.prog 212 [agg (rowQ q0)] (bytesE 2002) := Fun.rowQ0 fun t b n hb => w_rput (m := 0) (q := q0) (B := 0) hb (by omega) (by omega) (.inl rfl)
theorem rp1 : Fun Tryz.prog 212 [agg (rowQ qA1)] (bytesE 82082) := Fun.rowQ fun t b n m hb hm => w_rput (B := 2002) hb hm (by omega) (.inr rp0)
theorem rp2 : Fun Tryz.prog 212 [agg (rowQ qA2)] (bytesE 3285282) := Fun.rowQ fun t b n m hb hm => w_rput (B := 82082) hb hm (by omega) (.inr rp1)
theorem rE2 : Fun Tryz.prog 165 [agg (rowQ qA2)] (tup [bytesE 3285282, anyK .i64]) := w_rEncode rf2 rd2 rp2
/-- Its numbers are small. -/
structure Crt.tiny (c : Crt) : Prop where
  serial : c.serial ≤ 40000
  keyId : c.keyId ≤ 40000
  kalg : 0 ≤ c.kalg ∧ c.kalg ≤ 40000
  kbits : 0 ≤ c.kbits ∧ c.kbits ≤ 40000
  halg : 0 ≤ c.halg ∧ c.halg ≤ 40000
  hbits : 0 ≤ c.hbits ∧ c.hbits ≤ 40000
theorem named_len {s : List UInt8} (h : named s = true) : s.length ≤ 32 := by unfold named at h; simp at h; omega

theorem w_R3use {a b : Int} (ha : 0 ≤ a ∧ a ≤ 40000) (hb : 0 ≤ b ∧ b ≤ 40000) : Fun Tryz.prog 216 [agg [int a, int b]] (agg (rowQ qA1)) := by
 refine fo Tryz.func216 rfl ⟨rfl, rfl⟩ fun M0 w0 => (Tr.seq (Tr.regT (tp rfl (ok_box rfl (VL.le (vl rfl) (agg_cellsP _))) ?_)))
 refine TO.alloc rfl rfl (by decide) rfl z195 zo195 (fun b1 => ?_)
 refine ap ?_
 refine Tr.seq (Tr.rx ?_)
 refine ay ?_
 refine xo rfl (fun _ => kc1 (w_rInt ha) rfl rfl) ?_
 refine ay ?_
 refine xo rfl (fun _ => kc1 (w_rInt hb) rfl rfl) (xo rfl (fun _ => ok_buildSlice (xs := [.tmp 5, .tmp 8]) (rows := [_, _]) rfl rfl Tryz.underlying193 sz195 z195 rfl (by decide) ⟨⟨(by exact rfl), (VL.le (vl rfl) (agg_cellsP _))⟩, ⟨⟨(by exact rfl), (VL.le (vl rfl) (agg_cellsP _))⟩, trivial⟩⟩ (by decide)) ?_)
 refine xo rfl (fun _ => ok_call rfl (w_rList (m := 2) (q := q0) (by omega) (rc1 _ (by omega))) ⟨⟨_, rfl, full_le _ _⟩, trivial⟩) ?_
 refine Cx.ef0 0 rfl rfl (ef_store rfl rfl (vl rfl) (VL.le (vl rfl) (agg_cellsP _)) sz195 rfl (by exact Nat.le_of_ble_eq_true rfl) rfl) ?_
 refine Cx.nil ⟨by kernel_rfl, ?_⟩
 refine FinX.done al1 (Fin.go (Tr.ret (Fin.retX1 rfl (RVal.cell 0 rfl rfl agg195 sz195 rfl (Pr.le_refl _)) ?_)))
 · exact Pr.le_refl _
theorem w_R3body {c : Crt} (hv : validB c = true) (ht : c.tiny) : Fun Tryz.prog 166 [agg (rowCr c)] (agg (rowQ qA2)) := by
 refine fo Tryz.func166 rfl ⟨rfl, rfl⟩ fun M0 w0 => ?_
 obtain ⟨hs0, hs1, hiss, hsub, hnm, hkey, hk0, hk1, hhash, hsk0, hsk1, hsu0, hsu1, hf0, hft, ht1, hp0, hp1, hap⟩ := vf_of hv
 obtain ⟨g1, g2, g3, g4, g5, g6⟩ := ht
 have hnm2 := hnm
 unfold namesB at hnm2
 rw [Bool.and_eq_true, allI_iff, decide_eq_true_eq] at hnm2
 obtain ⟨hall, hlen8⟩ := hnm2
 have hli := named_len hiss
 have hlj := named_len hsub
 refine Tr.seq (Tr.regT (tp rfl (ok_box rfl (VL.le (vl rfl) (agg_cellsP _))) ?_))
 refine TO.alloc rfl rfl (by decide) rfl z195 zo195 (fun b1 => ?_)
 refine ap ?_
 refine ac ?_
 refine ac ?_
 refine Tr.block (Tr.addnil 195 4 (Tr.loopV1 [(1, _), (2, _)] ⟨ke rfl, ke rfl, trivial⟩ (fun k v => [(4, int ((k : Nat) : Int)), (3, andIs v (slice 4 (List.replicate k (rowQ q0))))]) (fun k v => Hp M0 w0 noS ([appRes 195 4 v, cellsRes true b1 195 (([.int .i64 0, .slice none 0 0, .bool false, .slice none 0 0] : List Value).map is)])) (fun k : Nat => k ≤ (c.names).length) (fun k : Nat => (c.names).length - k) 0 (.slice none 0 0) (Nat.zero_le _) ⟨ke rfl, ⟨_, rfl, own_nil rfl⟩, trivial⟩ (fun _ _ h => h) ?_))
 rintro k v hle_k
 refine ac ?_
 refine Tr.cn rfl ?_ ?_ <;> intro h1 q1
 have hk_k : k < (c.names).length := lt_of_dec h1
 obtain ⟨s, hx_k⟩ := at_ hk_k
 have hsn := named_len (name_at (hall k (by omega)) hx_k)
 refine ac ?_
 refine ap ?_
 refine tp rfl (ok_indexAddr rfl Tryz.underlying83 sz9 (vl rfl) (vl rfl) (by omega) (by exact row_at (by assumption))) ?_
 refine tp rfl (kl1 rfl one9 rfl) (tp rfl (kc1 (w_rText (by omega)) rfl rfl) (tp rfl (ok_buildSlice (xs := [.tmp 18]) (rows := [_]) rfl rfl Tryz.underlying193 sz195 z195 rfl (by decide) ⟨⟨(by exact rfl), (VL.le (vl rfl) (agg_cellsP _))⟩, trivial⟩ (by decide)) ?_))
 refine TO.efs 0 rfl rfl (by decide) (ef_append rfl rfl (by decide) rfl Tryz.underlying193 sz195 by195 z195 rfl (by decide) ⟨_, rfl, andIs_le _ _⟩ ⟨_, rfl, full_le _ _⟩ (by simp only [List.length_append, List.length_replicate, List.length_cons, List.length_nil]; unfold maxLen; omega) (by simp only [List.length_append, List.length_replicate, List.length_cons, List.length_nil]; omega) (appR_is (by exact List.Mem.head _) ⟨_, rfl, andIs_is _ _⟩)) (fun v1 => ?_)
 refine ap ?_
 refine wk4 1 2 3 4 rfl ?_
 refine ac ?_
 exact Fin.famV1 (k + 1) v1 (⟨hk_k, by omega⟩) ⟨⟨_, rfl, int_succ k⟩, ⟨_, rfl, own_le (by rw [rep_one])⟩, ke rfl, ke rfl, trivial⟩ (fun _ _ h => h)
 have he_k : k = (c.names).length := by have := ge_of_dec h1; omega
 refine ac ?_
 refine Tr.seq (Tr.rx ?_)
 refine ay ?_
 refine xo rfl (fun _ => kc1 (w_rInt (by omega)) rfl rfl) ?_
 refine ay ?_
 refine xo rfl (fun _ => kc1 (w_rText (by omega)) rfl rfl) ?_
 refine ay ?_
 refine xo rfl (fun _ => kc1 (w_rText (by omega)) rfl rfl) ?_
 refine ay ?_
 refine xo rfl (fun _ => kc1 (w_R3use g3 g4) rfl rfl) ?_
 refine ay ?_
 refine xo rfl (fun _ => kc1 (w_rInt (by omega)) rfl rfl) ?_
 refine ay ?_
 refine xo rfl (fun _ => kc1 (w_R3use g5 g6) rfl rfl) ?_
 refine ay ?_
 refine xo rfl (fun _ => kc1 (w_rInt (by omega)) rfl rfl) ?_
 refine ay ?_
 refine xo rfl (fun _ => kc1 (w_rInt (by omega)) rfl rfl) ?_
 refine ay ?_
 refine xo rfl (fun _ => kc1 (w_rBool) rfl rfl) ?_
 refine ay ?_
 refine xo rfl (fun _ => kc1 (w_rInt (by omega)) rfl rfl) (xm rfl ?_)
 refine xo rfl (fun _ => ok_call rfl (w_rList (m := c.names.length) (q := q0) (by omega) (rc1 _ (by omega))) ⟨⟨_, rfl, Pr.le_trans (andIs_le _ _) (Pr.le_of_eq (by rw [he_k]))⟩, trivial⟩) ?_
 refine xo rfl (fun _ => ok_buildSlice (xs := [.tmp 23, .tmp 26, .tmp 29, .tmp 32, .tmp 35, .tmp 38, .tmp 41, .tmp 44, .tmp 47, .tmp 50, .tmp 52]) (rows := [rowQ qA1, rowQ qA1, rowQ qA1, rowQ qA1, rowQ qA1, rowQ qA1, rowQ qA1, rowQ qA1, rowQ qA1, rowQ qA1, rowQ qA1]) rfl rfl Tryz.underlying193 sz195 z195 rfl (by decide) ⟨⟨(by exact rfl), VL.le (vl rfl) (Pr.le_trans (agg_le (qs := rowQ qA1) ⟨Pr.le_refl _, Pr.le_refl _, Pr.le_refl _, q0_le, trivial⟩) (agg_cellsP _))⟩, ⟨⟨(by exact rfl), VL.le (vl rfl) (Pr.le_trans (agg_le (qs := rowQ qA1) ⟨Pr.le_refl _, Pr.le_refl _, Pr.le_refl _, q0_le, trivial⟩) (agg_cellsP _))⟩, ⟨⟨(by exact rfl), VL.le (vl rfl) (Pr.le_trans (agg_le (qs := rowQ qA1) ⟨Pr.le_refl _, Pr.le_refl _, Pr.le_refl _, q0_le, trivial⟩) (agg_cellsP _))⟩, ⟨⟨(by exact rfl), VL.le (vl rfl) (agg_cellsP _)⟩, ⟨⟨(by exact rfl), VL.le (vl rfl) (Pr.le_trans (agg_le (qs := rowQ qA1) ⟨Pr.le_refl _, Pr.le_refl _, Pr.le_refl _, q0_le, trivial⟩) (agg_cellsP _))⟩, ⟨⟨(by exact rfl), VL.le (vl rfl) (agg_cellsP _)⟩, ⟨⟨(by exact rfl), VL.le (vl rfl) (Pr.le_trans (agg_le (qs := rowQ qA1) ⟨Pr.le_refl _, Pr.le_refl _, Pr.le_refl _, q0_le, trivial⟩) (agg_cellsP _))⟩, ⟨⟨(by exact rfl), VL.le (vl rfl) (Pr.le_trans (agg_le (qs := rowQ qA1) ⟨Pr.le_refl _, Pr.le_refl _, Pr.le_refl _, q0_le, trivial⟩) (agg_cellsP _))⟩, ⟨⟨(by exact rfl), VL.le (vl rfl) (Pr.le_trans (agg_le (qs := rowQ qA1) ⟨Pr.le_refl _, Pr.le_refl _, Pr.le_refl _, q0_le, trivial⟩) (agg_cellsP _))⟩, ⟨⟨(by exact rfl), VL.le (vl rfl) (Pr.le_trans (agg_le (qs := rowQ qA1) ⟨Pr.le_refl _, Pr.le_refl _, Pr.le_refl _, q0_le, trivial⟩) (agg_cellsP _))⟩, ⟨⟨(by exact rfl), VL.le (vl rfl) (agg_cellsP _)⟩, trivial⟩⟩⟩⟩⟩⟩⟩⟩⟩⟩⟩ (by decide)) ?_
 refine xo rfl (fun _ => ok_call rfl (w_rList (m := 11) (q := qA1) (by omega) (rc2 _ (by omega))) ⟨⟨_, rfl, full_le _ _⟩, trivial⟩) ?_
 refine Cx.ef0 1 rfl rfl (ef_store rfl rfl (vl rfl) (VL.le (vl rfl) (agg_cellsP _)) sz195 rfl (by exact Nat.le_of_ble_eq_true rfl) rfl) ?_
 refine Cx.nil ⟨by kernel_rfl, ?_⟩
 refine FinX.done al2 (Fin.go (wk1 2 rfl (Tr.ret (Fin.retX1 rfl (RVal.cell 1 rfl rfl agg195 sz195 rfl (Pr.le_refl _)) ?_))))
 · exact Pr.le_refl _
theorem w_R3Bytes {c : Crt} (hv : validB c = true) (ht : c.tiny) : Fun Tryz.prog 127 [agg (rowCr c)] (tup [bytesE 3285282, anyK .i64]) := by
 refine fo Tryz.func127 rfl ⟨rfl, rfl⟩ fun M0 w0 => ?_
 refine ac ?_
 refine ac ?_
 refine co rfl (kc1 (w_R3Check hv) rfl rfl) ?_
 refine ac ?_
 refine Tr.cn rfl ?_ ?_ <;> intro h1 q1
 exact absurd h1 (by decide)
 refine ac ?_
 refine ac ?_
 refine co rfl (kc1 (w_R3body hv ht) rfl rfl) (co rfl (kc1 (rE2) rfl rfl) ?_)
 refine ac ?_
 refine Tr.ret (Fin.ret2 rfl (OutW.bse _ _) rfl ?_ rfl ?_)
 · exact Pr.le_refl _
 · exact Pr.le_refl _
theorem w_R3Sum {m : Nat} (hm : m ≤ 100000000) : Fun Tryz.prog 128 [bts m] (sumE) := by
 refine fo Tryz.func128 rfl ⟨rfl, rfl⟩ fun M0 w0 => ?_
 have hlr : (List.replicate m u8R).length = m := List.length_replicate
 refine ac ?_
 refine ac ?_
 refine ac ?_
 refine Tr.block (Tr.loopw [(0, _)] ⟨ke rfl, trivial⟩ (fun k : Nat => [(4, int ((k : Nat) : Int)), (3, u32R)]) (fun k : Nat => k ≤ ((List.replicate m u8R).length)) (fun k : Nat => ((List.replicate m u8R).length) - k) 0 (Nat.zero_le _) ⟨ke rfl, ⟨_, rfl, ex_in _ (fact_in (by omega) (Pr.le_refl _))⟩, trivial⟩ ?_)
 rintro k hle_k
 refine ac ?_
 refine co rfl (ok_len rfl Tryz.underlying176 (vl rfl)) ?_
 refine ac ?_
 refine Tr.cn rfl ?_ ?_ <;> intro h1 q1
 have hk_k : k < ((List.replicate m u8R).length) := lt_of_dec h1
 have hkm : k < m := by simpa using hk_k
 refine ac ?_
 refine ac ?_
 refine co rfl (ok_indexAddr rfl Tryz.underlying176 sz5 (vl rfl) (vl rfl) (by omega) (rep_at hkm)) (co rfl (kl1 rfl one5 rfl) (co rfl (ok_convK rfl Tryz.underlying5 Tryz.underlying197 (vl rfl)) (co rfl (ok_bits (by decide) rfl (VL.le (vl rfl) u32_any) (vl rfl)) (co rfl (ok_mulU rfl (vl rfl) (VL.le (vl rfl) (is_anyK _ _))) ?_))))
 refine ac ?_
 refine wk3 0 3 4 rfl ?_
 refine ac ?_
 exact Fin.fam_same (k + 1) ⟨hk_k, by omega⟩ ⟨⟨_, rfl, int_succ k⟩, ke rfl, ke rfl, trivial⟩
 have he_k : k = ((List.replicate m u8R).length) := by have := ge_of_dec h1; omega
 refine ac ?_
 refine ac ?_
 refine co rfl (ok_conv32 rfl Tryz.underlying197 Tryz.underlying3 (vl rfl)) ?_
 refine ac ?_
 refine ac ?_
 · exact Pr.le_refl _
theorem w_R3Copy {c : Crt} (hn : c.names.length ≤ 1000) : Fun Tryz.prog 126 [agg (rowCr c)] (agg (rowCr c)) := by
 refine fo Tryz.func126 rfl ⟨rfl, rfl⟩ fun M0 w0 => (Tr.seq (Tr.regT ?_))
 refine TO.boxm rfl rfl (by decide) rfl (VL.le (vl rfl) (agg_cellsP _)) (fun b1 => ?_)
 refine TO.alloc rfl rfl (by decide) rfl z126 zo126 (fun b2 => ?_)
 refine ap ?_
 refine ap ?_
 refine TO.pad ?_
 refine TO.efs 0 rfl rfl (by decide) (ef_append rfl rfl (by decide) rfl Tryz.underlying83 sz9 by9 z9 rfl (by decide) ⟨_, rfl, full_le _ _⟩ (vl rfl) (by simp only [List.length_append, List.length_map, List.length_nil]; unfold maxLen; omega) (by simp only [List.length_append, List.length_map, List.length_nil]; omega) (appR_full (by exact List.Mem.head _) (vl rfl))) (fun v1 => ?_)
 refine ap ?_
 refine ap ?_
 refine Tr.drop 2 (Tr.ret (Fin.retX1 rfl (RVal.cell 1 rfl rfl agg126 sz126 rfl (Pr.le_refl _)) ?_))
 · exact agg_le ⟨Pr.le_refl _, Pr.le_refl _, Pr.le_refl _, Pr.le_refl _, Pr.le_refl _, Pr.le_refl _, Pr.le_refl _, Pr.le_refl _, Pr.le_refl _, Pr.le_refl _, Pr.le_refl _, Pr.le_refl _, Pr.le_trans (andIs_le _ _) (Pr.le_of_eq (by simp)), Pr.le_refl _, Pr.le_refl _, trivial⟩
abbrev sealed (c : Crt) (key s : Int) : Crt := ⟨c.serial, c.issuer, c.subject, c.kalg, c.kbits, c.keyId, c.halg, c.hbits, c.from_, c.to_, c.auth, c.path, c.names, key, s⟩

theorem w_R3Sign {c : Crt} {key : Int} (hv : validB (sealed c 0 0) = true) (ht : (sealed c 0 0).tiny) (hk : 0 ≤ key ∧ key ≤ 2147483648) : Fun Tryz.prog 86 [agg (rowCr c), int key] (Cp.ex fun s : Int => fact (0 ≤ s ∧ s < 4294967296) (tup [agg (rowCr (sealed c key s)), int 0])) := by
 refine fo Tryz.func86 rfl ⟨rfl, rfl⟩ fun M0 w0 => ?_
 have hnn : c.names.length ≤ 1000 := by have := (vf_of hv).nm; unfold namesB at this; simp at this; omega
 refine Tr.seq (Tr.regT ?_)
 refine TO.boxm rfl rfl (by decide) rfl (VL.le (vl rfl) (agg_cellsP _)) (fun b1 => ?_)
 refine TO.alloc rfl rfl (by decide) rfl z126 zo126 (fun b2 => ?_)
 refine ap ?_
 refine ap ?_
 refine tp rfl (kc1 (w_R3Copy (c := c) hnn) rfl rfl) ?_
 refine ap ?_
 refine ap ?_
 refine ac ?_
 refine co rfl (kc1 (w_R3Check (c := sealed c 0 0) hv) rfl rfl) ?_
 refine ac ?_
 refine Ch.cs 15 rfl ?_ ?_ <;> intro h1 q1
 exact absurd h1 (by decide)
 refine ac ?_
 refine Ch.cs 19 rfl ?_ ?_ <;> intro h2 q2
 exfalso; have := q2; omega
 refine ac ?_
 refine wk4 1 2 4 22 rfl ?_
 refine Tr.cn rfl ?_ ?_ <;> intro h3 q3
 exfalso; have := q3; omega
 refine ac ?_
 refine ac ?_
 refine co rfl (kc1 (w_R3Bytes (c := sealed c 0 0) hv ht) rfl rfl) ?_
 refine ac ?_
 refine ap ?_
 refine tp rfl (kc1 (Fun.bytesE fun m hm => w_R3Sum (by omega)) rfl rfl) ?_
 refine TO.ex 31 rfl (fun z31 => TO.fact 31 rfl fun hz31 => ?_)
 refine ap ?_
 refine wk2 2 4 rfl ?_
 refine ap ?_
 refine Tr.drop 1 (Tr.ret (Fin.retX2 rfl (RVal.cell 0 rfl rfl agg126 sz126 rfl (Pr.le_refl _)) (RVal.tmp rfl (Pr.le_refl _)) ?_))
 · exact ex_in z31 (fact_in hz31 (Pr.le_refl _))
end Go.Proofs.YtflodcidhlmaaaaGreat
namespace Go.Proofs.YtflodcidhlmaaaaGreat
open Go Go.RowKit Cp

abbrev leafC (name : List UInt8) (a b id to key s : Int) : Crt := ⟨id, [114, 111, 111, 116], name, a, b, id, 3, 0, 0, to, false, 0, [name], key, s⟩
abbrev leafI (name : List UInt8) (a b id to key s : Int) : Idn := ⟨a, b, id, [leafC name a b id to key s]⟩
abbrev leafE (name : List UInt8) (a b id to key : Int) : Pr := Cp.ex fun s : Int => fact (0 ≤ s ∧ s < 4294967296) (agg (rowId (leafI name a b id to key s)))
abbrev anyS : Pr := Cp.ex fun l : List UInt8 => str l
abbrev lnkR : List Pr := [anyK .i64, anyK .i64, anyK .i64]
abbrev itemR : List Pr := [anyS, anyK .i64, anyK .i64, (Cp.ex fun m : Nat => slice 3 (List.replicate m lnkR)), anyK .i64]

theorem w_RSA   : Fun Tryz.prog 49 [] (agg [int 5, int 2048]) := by
 refine fo Tryz.func49 rfl ⟨rfl, rfl⟩ fun M0 w0 => (Tr.seq (Tr.regT ?_))
 refine TO.alloc rfl rfl (by decide) rfl z44 zo44 (fun b1 => ?_)
 refine ap ?_
 refine ap ?_
 refine Tr.ret (Fin.retX1 rfl (RVal.cell 0 rfl rfl agg44 sz44 rfl (Pr.le_refl _)) ?_)
 · exact Pr.le_refl _
theorem w_EC   : Fun Tryz.prog 56 [] (agg [int 7, int 256]) := by
 refine fo Tryz.func56 rfl ⟨rfl, rfl⟩ fun M0 w0 => (Tr.seq (Tr.regT ?_))
 refine TO.alloc rfl rfl (by decide) rfl z44 zo44 (fun b1 => ?_)
 refine ap ?_
 refine ap ?_
 refine Tr.ret (Fin.retX1 rfl (RVal.cell 0 rfl rfl agg44 sz44 rfl (Pr.le_refl _)) ?_)
 · exact Pr.le_refl _
theorem w_Leaf {name : List UInt8} {a b id to key : Int} (hv : validB (leafC name a b id to 0 0) = true) (ht : (leafC name a b id to 0 0).tiny) (hk : 0 ≤ key ∧ key ≤ 2147483648) : Fun Tryz.prog 48 [str name, agg [int a, int b], int id, int key, int to] (leafE name a b id to key) := by
 refine fo Tryz.func48 rfl ⟨rfl, rfl⟩ fun M0 w0 => (Tr.seq (Tr.regT (tp rfl (ok_box rfl (VL.le (vl rfl) (agg_cellsP _))) ?_)))
 refine TO.alloc rfl rfl (by decide) rfl z47 zo47 (fun b1 => ?_)
 refine ap ?_
 refine ap ?_
 refine tp rfl (ok_build (rows := [(0, [_]), (1, [_]), (2, [_]), (3, _), (4, [_]), (5, _), (7, [_]), (10, [_])]) rfl bl126 zo126 ⟨⟨rfl, (VL.le (vl rfl) (one_cellsP _))⟩, ⟨⟨rfl, (VL.le (vl rfl) (one_cellsP _))⟩, ⟨⟨rfl, (VL.le (vl rfl) (one_cellsP _))⟩, ⟨⟨rfl, (VL.le (vl rfl) (agg_cellsP _))⟩, ⟨⟨rfl, (VL.le (vl rfl) (one_cellsP _))⟩, ⟨⟨rfl, (VL.le (vl rfl) (agg_cellsP _))⟩, ⟨⟨rfl, (VL.le (vl rfl) (one_cellsP _))⟩, ⟨⟨rfl, ⟨_, rfl, Pr.le_trans (full_le _ _) (one_cellsP _)⟩⟩, trivial⟩⟩⟩⟩⟩⟩⟩⟩ rfl) (TO.re 20 (agg (rowCr (leafC name a b id to 0 0))) rfl (Pr.le_of_eq rfl) ?_)
 refine TO.alloc rfl rfl (by decide) rfl z126 zo126 (fun b2 => ?_)
 refine ap ?_
 refine wk5 2 3 6 10 11 rfl ?_
 refine ap ?_
 refine tp rfl (kc2 (w_R3Sign (c := leafC name a b id to 0 0) hv ht hk) rfl rfl rfl) ?_
 refine TO.ex 24 rfl (fun z24 => TO.fact 24 rfl fun hz24 => ?_)
 refine ap ?_
 refine ap ?_
 refine tp rfl (ok_build (rows := [(0, _), (1, [_]), (2, [_])]) rfl bl47 zo47 ⟨⟨rfl, (VL.le (vl rfl) (agg_cellsP _))⟩, ⟨⟨rfl, (VL.le (vl rfl) (one_cellsP _))⟩, ⟨⟨rfl, ⟨_, rfl, Pr.le_trans (full_le _ _) (one_cellsP _)⟩⟩, trivial⟩⟩⟩ rfl) ?_
 refine ap ?_
 refine Tr.drop 0 (wk1 10 rfl (Tr.ret (Fin.retX1 rfl (RVal.cell 0 rfl rfl agg47 sz47 rfl (Pr.le_refl _)) ?_)))
 · exact ex_in z24 (fact_in hz24 (Pr.le_refl _))
/-- Some text of a list. -/
def wordOf (s : DS) (l : List (List UInt8)) : List UInt8 := (l[(s.val l.length).toNat]?).getD []

theorem w_DWordE {b : Nat} {s : DS} {l : List (List UInt8)} (hl : l ≠ []) (hl2 : l.length ≤ 1000000000) : FunM Tryz.prog 51 [ptr b 0, txts l] (str (wordOf s l)) (diceS b s) (fun _ => diceS b s.adv) := by
 refine FunM.of Tryz.func51 rfl rfl (by exact Nat.le_of_ble_eq_true rfl) fun M0 w0 S rs M1 w1 => ?_
 have hl0 : 1 ≤ (l.length : Int) := by have := List.length_pos_iff.2 hl; omega
 have hv := s.val_in hl0
 obtain ⟨x, hx⟩ := at_ (l := l) (k := (s.val l.length).toNat) (by omega)
 refine ac ?_
 refine ap ?_
 refine TO.efc 0 rfl rfl (by decide) (ef_callc rfl rfl (by decide) rfl (w_DNext (by omega) (by omega)) ⟨ke rfl, ke rfl, trivial⟩) (tp rfl (ok_indexAddr rfl Tryz.underlying83 sz9 (vl rfl) (vl rfl) (by omega) (row_atI hx)) ?_)
 refine ap ?_
 refine Tr.ret (Fin.retY1 [] rfl (RVal.tmp rfl (Pr.le_refl _)) ?_ (fun _ _ _ _ => rfl))
 · refine Pr.le_of_eq ?_; unfold wordOf; rw [hx]; rfl
end Go.Proofs.YtflodcidhlmaaaaGreat
namespace Go.Proofs.YtflodcidhlmaaaaGreat
open Go Go.RowKit Cp

abbrev usR : List Pr := [anyK .i64, anyK .i64]
theorem rep_atI {r : List Pr} {m : Nat} {i : Int} (h : 0 ≤ i ∧ i < (m : Nat)) : (List.replicate m r)[i.toNat]? = some r := by rw [List.getElem?_replicate, if_pos (by omega)]

theorem w_Item {b : Nat} {s : DS} {name : List UInt8}  : FunM Tryz.prog 50 [ptr b 0, str name] (agg itemR) (diceS b s) (fun _ => diceEx 82 b) := by
 refine FunM.of Tryz.func50 rfl rfl (by exact Nat.le_of_ble_eq_true rfl) fun M0 w0 S rs M1 w1 => ?_
 have hv3 := s.adv.adv.adv.val_in (n := 3) (by omega)
 refine Tr.seq (Tr.regT ?_)
 refine TO.alloc rfl rfl (by decide) rfl z91 zo91 (fun b1 => ?_)
 refine TO.nil (Fin.go (Tr.seq (Tr.regT (tm rfl (tm rfl (TO.efc 1 rfl rfl (by decide) (ef_callc rfl rfl (by decide) rfl (w_DNext (by omega) (by omega)) ⟨ke rfl, ke rfl, trivial⟩) (tp rfl (ki rfl rfl rfl rfl) (tm rfl (TO.efc 1 rfl rfl (by decide) (ef_callc rfl rfl (by decide) rfl (w_DNext (by omega) (by omega)) ⟨ke rfl, ke rfl, trivial⟩) (tp rfl (ki rfl rfl rfl rfl) (tp rfl (ok_build (rows := [(0, [_]), (1, [_]), (2, [_])]) rfl bl91 zo91 ⟨⟨rfl, (VL.le (vl rfl) (one_cellsP _))⟩, ⟨⟨rfl, (VL.le (vl rfl) (one_cellsP _))⟩, ⟨⟨rfl, (VL.le (vl rfl) (one_cellsP _))⟩, trivial⟩⟩⟩ rfl) ?_)))))))))))
 refine TO.alloc rfl rfl (by decide) rfl z91 zo91 (fun b2 => ?_)
 refine TO.store_all 0 rfl rfl rfl (vl rfl) (VL.le (vl rfl) (agg_cellsP _)) rfl sz91 rfl rfl (TO.nil (Fin.go (Tr.seq (Tr.regT (tm rfl (TO.efc 2 rfl rfl (by decide) (ef_callc rfl rfl (by decide) rfl (w_DNext (by omega) (by omega)) ⟨ke rfl, ke rfl, trivial⟩) (tm rfl (TO.nil (Fin.go (wk4 0 4 5 6 rfl (Tr.seq (Tr.seq (Tr.regT ?_)))))))))))))
 refine tm rfl (TO.efc 2 rfl rfl (by decide) (ef_callc rfl rfl (by decide) rfl (w_DNext (by omega) (by omega)) ⟨ke rfl, ke rfl, trivial⟩) ?_)
 refine tp rfl (ok_add rfl (vl rfl) (vl rfl) ?hin) ?_; case hin => unfold InI; omega
 refine tm rfl (TO.nil (Fin.go (Tr.block (Tr.reC 0 [anyS, anyK .i64, anyK .i64, andIs (.slice none 0 0) (slice 3 (List.replicate 0 lnkR)), is (.int .i64 0)] rfl ⟨ex_in _ (Pr.le_refl _), is_anyK _ _, is_anyK _ _, own_nil rfl, Pr.le_refl _, trivial⟩ (Tr.addnil 134 3 (Tr.loopD3V1 [(0, _), (4, _), (5, _)] ⟨ke rfl, ke rfl, ke rfl, trivial⟩ (fun (k : Int) (m : Nat) (s2 : DS) v => [(7, int k), (6, anyK .i64)]) (fun (k : Int) (m : Nat) (s2 : DS) v => Hp M0 w0 S (appRes 134 3 v :: cellsRes true b2 91 [anyS, anyK .i64, anyK .i64, andIs v (slice 3 (List.replicate m lnkR)), is (.int .i64 0)] :: cellsRes true b1 91 (([.string (ByteArray.mk #[]), .int .i64 0, .int .i64 0, .slice none 0 0, .int .i64 0] : List Value).map is) :: diceS b s2 :: extRes M1 w1 :: rs)) (fun (k : Int) (m : Nat) (s2 : DS) => 0 ≤ k ∧ k + m ≤ 3 ∧ 1 ≤ k + m) (fun (k : Int) (m : Nat) (s2 : DS) => k.toNat) (_) (0) (_) (.slice none 0 0) (⟨by omega, by omega, by omega⟩) ⟨ke rfl, ⟨_, rfl, is_anyK _ _⟩, trivial⟩ (fun _ _ h => h) ?_))))))
 rintro k m s2 v ⟨hk0, hk1, hk2⟩
 refine Tr.seq (Tr.seq (Tr.reg0 (cm rfl (co rfl (ki rfl rfl rfl rfl) (Ch.nil (Fin.go ?_))))))
 refine Tr.cn rfl ?_ ?_ <;> intro h1 q1
 have hk3 : 0 < k := of_decide_eq_true h1
 have hv6 := s2.val_in (n := 6) (by omega)
 refine Tr.skip (Fin.go (Tr.seq (Tr.block (Tr.seq (Tr.regT (tp rfl (ok_build (rows := [(0, [_])]) rfl bl44 zo44 ⟨⟨rfl, (VL.le (vl rfl) (one_cellsP _))⟩, trivial⟩ rfl) (tp rfl (ok_build (rows := [(0, [_])]) rfl bl44 zo44 ⟨⟨rfl, (VL.le (vl rfl) (one_cellsP _))⟩, trivial⟩ rfl) (tp rfl (ok_build (rows := [(0, [_]), (1, [_])]) rfl bl44 zo44 ⟨⟨rfl, (VL.le (vl rfl) (one_cellsP _))⟩, ⟨⟨rfl, (VL.le (vl rfl) (one_cellsP _))⟩, trivial⟩⟩ rfl) (tp rfl (ok_build (rows := [(0, [_]), (1, [_])]) rfl bl44 zo44 ⟨⟨rfl, (VL.le (vl rfl) (one_cellsP _))⟩, ⟨⟨rfl, (VL.le (vl rfl) (one_cellsP _))⟩, trivial⟩⟩ rfl) (tp rfl (ok_build (rows := [(0, [_])]) rfl bl44 zo44 ⟨⟨rfl, (VL.le (vl rfl) (one_cellsP _))⟩, trivial⟩ rfl) (tp rfl (ok_build (rows := [(0, [_]), (1, [_])]) rfl bl44 zo44 ⟨⟨rfl, (VL.le (vl rfl) (one_cellsP _))⟩, ⟨⟨rfl, (VL.le (vl rfl) (one_cellsP _))⟩, trivial⟩⟩ rfl) (tp rfl (ok_buildSlice (xs := [.tmp 26, .tmp 27, .tmp 28, .tmp 29, .tmp 30, .tmp 31]) (rows := [usR, usR, usR, usR, usR, usR]) rfl rfl Tryz.underlying96 sz44 z44 rfl (by decide) ⟨⟨(by exact rfl), VL.le (vl rfl) (Pr.le_trans (agg_le (qs := usR) ⟨is_anyK _ _, is_anyK _ _, trivial⟩) (agg_cellsP _))⟩, ⟨⟨(by exact rfl), VL.le (vl rfl) (Pr.le_trans (agg_le (qs := usR) ⟨is_anyK _ _, is_anyK _ _, trivial⟩) (agg_cellsP _))⟩, ⟨⟨(by exact rfl), VL.le (vl rfl) (Pr.le_trans (agg_le (qs := usR) ⟨is_anyK _ _, is_anyK _ _, trivial⟩) (agg_cellsP _))⟩, ⟨⟨(by exact rfl), VL.le (vl rfl) (Pr.le_trans (agg_le (qs := usR) ⟨is_anyK _ _, is_anyK _ _, trivial⟩) (agg_cellsP _))⟩, ⟨⟨(by exact rfl), VL.le (vl rfl) (Pr.le_trans (agg_le (qs := usR) ⟨is_anyK _ _, is_anyK _ _, trivial⟩) (agg_cellsP _))⟩, ⟨⟨(by exact rfl), VL.le (vl rfl) (Pr.le_trans (agg_le (qs := usR) ⟨is_anyK _ _, is_anyK _ _, trivial⟩) (agg_cellsP _))⟩, trivial⟩⟩⟩⟩⟩⟩ (by decide)) ?_))))))))))))
 refine tm rfl (TO.efc 3 rfl rfl (by decide) (ef_callc rfl rfl (by decide) rfl (w_DNext (by omega) (by omega)) ⟨ke rfl, ke rfl, trivial⟩) ?_)
 refine tp rfl (ok_indexAddr rfl Tryz.underlying96 sz44 ⟨_, rfl, full_le _ _⟩ (vl rfl) (by omega) (show (List.replicate 6 usR)[_]? = _ from rep_atI hv6)) ?_
 refine tp rfl (ok_loadA rfl agg44 sz44 (vl rfl) rfl rfl) ?_
 refine TO.alloc rfl rfl (by decide) rfl z44 zo44 (fun b3 => ?_)
 refine TO.store_all 0 rfl rfl rfl (vl rfl) (VL.le (vl rfl) (agg_cellsP _)) rfl sz44 rfl rfl (TO.freeze 0 8 rfl rfl (TO.nil (Fin.go (wk6 0 4 5 6 7 8 rfl (Tr.seq (Tr.regT (tp rfl (okp_fieldAddr rfl fo91_3 (vl rfl)) (TO.rd 1 rfl rfl rfl (by decide) (rd_load1 rfl one89 (vl rfl) rfl) (tp rfl (ok_loadA rfl agg44 sz44 (vl rfl) rfl rfl) (tm rfl (tp rfl (ok_build (rows := [(0, _), (1, [_])]) rfl bl134 zo134 ⟨⟨rfl, (VL.le (vl rfl) (agg_cellsP _))⟩, ⟨⟨rfl, (VL.le (vl rfl) (one_cellsP _))⟩, trivial⟩⟩ rfl) (tp rfl (ok_buildSlice (xs := [.tmp 41]) (rows := [lnkR]) rfl rfl Tryz.underlying89 sz134 z134 rfl (by decide) ⟨⟨(by exact rfl), VL.le (vl rfl) (Pr.le_trans (Pr.le_of_eq (show agg _ = agg lnkR from rfl)) (agg_cellsP _))⟩, trivial⟩ (by decide)) ?_))))))))))))
 refine TO.efs 0 rfl rfl (by decide) (ef_append rfl rfl (by decide) rfl Tryz.underlying89 sz134 by134 z134 rfl (by decide) ⟨_, rfl, andIs_le _ _⟩ ⟨_, rfl, full_le _ _⟩ (by simp only [List.length_append, List.length_replicate, List.length_cons, List.length_nil]; unfold maxLen; omega) (by simp only [List.length_append, List.length_replicate, List.length_cons, List.length_nil]; omega) (appR_is (by exact List.Mem.head _) ⟨_, rfl, andIs_is _ _⟩)) (fun v1 => ?_)
 refine tp rfl (okp_fieldAddr rfl fo91_3 (vl rfl)) (TO.ef0 1 rfl rfl (ef_store rfl rfl (vl rfl) (VL.le (vl rfl) (one_cellsP _)) sz89 rfl (by exact Nat.le_of_ble_eq_true rfl) rfl) (TO.nil (Fin.go (wk5 0 4 5 6 7 rfl (Tr.regT (tm rfl (tp rfl (ok_addK rfl (vl rfl) (VL.le (vl rfl) (is_anyK _ _))) (tm rfl (tp rfl (ok_buildSlice (xs := [.const (.int .i64 (5)), .const (.int .i64 (30)), .const (.int .i64 (0)), .const (.int .i64 (100))]) (rows := [[_], [_], [_], [_]]) rfl rfl Tryz.underlying22 sz3 z3 rfl (by decide) ⟨⟨(by exact rfl), (VL.le (vl rfl) (one_cellsP _))⟩, ⟨⟨(by exact rfl), (VL.le (vl rfl) (one_cellsP _))⟩, ⟨⟨(by exact rfl), (VL.le (vl rfl) (one_cellsP _))⟩, ⟨⟨(by exact rfl), (VL.le (vl rfl) (one_cellsP _))⟩, trivial⟩⟩⟩⟩ (by decide)) ?_)))))))))
 refine TO.efc 3 rfl rfl (by decide) (ef_callc rfl rfl (by decide) rfl (w_DOf (l := [5, 30, 0, 100]) (by simp) (by simp)) ⟨ke rfl, ⟨_, rfl, full_le _ _⟩, trivial⟩) ?_
 refine tp rfl (ok_addK rfl (vl rfl) (VL.le (vl rfl) (is_anyK _ _))) (tm rfl (TO.nil (Fin.block (Fin.go (Tr.reg0 (cm rfl (csu rfl rfl rfl rfl (by omega) (cm rfl (Ch.nil (Fin.reC 1 [anyS, anyK .i64, anyK .i64, andIs v1 (slice 3 (List.replicate (m + 1) lnkR)), is (.int .i64 0)] rfl ⟨Pr.le_refl _, Pr.le_refl _, Pr.le_refl _, own_le (by rw [rep_one]), Pr.le_refl _, trivial⟩ (Fin.famD3V1 (k - 1) (m + 1) (_) v1 (⟨⟨by omega, by omega, by omega⟩, by omega⟩) ⟨⟨_, rfl, int_eq (by omega)⟩, ke rfl, ke rfl, ke rfl, ke rfl, trivial⟩ (fun _ _ h => h))))))))))))
 have hk3 : ¬ 0 < k := of_decide_eq_false h1
 refine Tr.exit (Fin.then_exit (Fin.then_exit (Fin.block_here (Fin.go (Tr.seq (Tr.regX mixed [none, some (0, 1, false, 0), none, none, none, none, none, some (0, 3, true, 0), none, none, some (0, 1, true, 0)] (by kernel_rfl) (xo rfl (fun _ => okp_fieldAddr rfl fo91_3 (vl rfl)) (xrd 1 rfl rfl (rd_load1 rfl one89 (vl rfl) rfl) ?_))))))))
 refine xo rfl (fun _ => ok_indexAddr rfl Tryz.underlying89 sz134 ⟨_, rfl, andIs_le _ _⟩ (vl rfl) (by omega) (rep_at (k := 0) (by omega))) ?_
 refine xo rfl (fun _ => kfa rfl fo134_1 rfl rfl) (xo rfl (fun _ => kl1 rfl one3 rfl) (xm rfl (xo rfl (fun _ => ok_buildSlice (xs := [.const (.int .i64 (50)), .const (.int .i64 (300)), .const (.int .i64 (0)), .const (.int .i64 (3000))]) (rows := [[_], [_], [_], [_]]) rfl rfl Tryz.underlying22 sz3 z3 rfl (by decide) ⟨⟨(by exact rfl), (VL.le (vl rfl) (one_cellsP _))⟩, ⟨⟨(by exact rfl), (VL.le (vl rfl) (one_cellsP _))⟩, ⟨⟨(by exact rfl), (VL.le (vl rfl) (one_cellsP _))⟩, ⟨⟨(by exact rfl), (VL.le (vl rfl) (one_cellsP _))⟩, trivial⟩⟩⟩⟩ (by decide)) ?_)))
 refine Cx.ef 3 rfl rfl (by decide) (ef_callc rfl rfl (by decide) rfl (w_DOf (l := [50, 300, 0, 3000]) (by simp) (by simp)) ⟨ke rfl, ⟨_, rfl, full_le _ _⟩, trivial⟩) ?_
 refine xo rfl (fun _ => ok_addK rfl (vl rfl) (VL.le (vl rfl) (is_anyK _ _))) (xo rfl (fun _ => okp_fieldAddr rfl fo91_4 (vl rfl)) (Cx.ef0 1 rfl rfl (ef_store rfl rfl (vl rfl) (VL.le (vl rfl) (one_cellsP _)) sz3 rfl (by exact Nat.le_of_ble_eq_true rfl) rfl) ?_))
 refine Cx.nil ⟨rfl, ?_⟩
 refine FinX.done (AllC.cons (AllC.cons (AllC.cons (AllC.cons (AllC.cons (AllC.map _)))))) (Fin.go (wk2 4 5 rfl (Tr.seq (Tr.regT (TO.rd 1 rfl rfl rfl (by decide) (rd_loadA rfl agg91 sz91 (vl rfl) rfl rfl) (TO.store_all 2 rfl rfl rfl (vl rfl) (VL.le (vl rfl) (agg_cellsP _)) rfl sz91 rfl rfl (TO.nil (Fin.go (Tr.ret (Fin.closeD 3 _ rfl rfl (Fin.retY1 [_, _, _] rfl (RVal.cell 2 rfl rfl agg91 sz91 rfl (Pr.le_refl _)) ?_ (fun _ _ _ _ => rfl))))))))))))
 · exact agg_le ⟨Pr.le_refl _, Pr.le_refl _, Pr.le_refl _, Pr.le_trans (andIs_le _ _) (ex_in m (Pr.le_refl _)), Pr.le_refl _, trivial⟩
end Go.Proofs.YtflodcidhlmaaaaGreat
namespace Go.Proofs.YtflodcidhlmaaaaGreat
open Go Go.RowKit Cp

def nameL : List (List UInt8) := [[97, 112, 112], [100, 98], [119, 101, 98]]
def optS : List (List Int) := [[10, 8, 2], [8, 2], [2, 10, 8, 3]]
def sOpt (i : Int) : List Int := (optS[i.toNat]?).getD []
theorem sopt_at {i : Int} (h : 0 ≤ i ∧ i < 3) : (optS.map fun l => [ints l])[i.toNat]? = some [ints (sOpt i)] := by
  have hl : i.toNat < optS.length := by show i.toNat < 3; omega
  unfold sOpt
  rw [List.getElem?_map, List.getElem?_eq_getElem hl]; rfl
theorem sopt_mem {i : Int} (h : 0 ≤ i ∧ i < 3) : sOpt i ∈ optS := by
  have hl : i.toNat < optS.length := by show i.toNat < 3; omega
  unfold sOpt
  rw [List.getElem?_eq_getElem hl]; exact List.getElem_mem hl
/-- What such an endpoint is. -/
structure SndE (i : Nat) (e : Ept) : Prop where
  name : nameL[i]? = some e.name
  least : e.least = 1
  most : e.most = 3 ∨ e.most = 4
  suites : e.suites ∈ optS ∨ ∃ l ∈ optS, e.suites = 14 :: l
  ids : ∃ s : Int, (0 ≤ s ∧ s < 4294967296) ∧ e.ids = [leafI e.name 5 2048 (100 + (i : Nat)) 901 1 s]
  anchors : e.anchors = [1]
  hashes : e.hashes = [2, 3]
def SndL (es : List Ept) : Prop := ∀ (i : Nat) e, es[i]? = some e → SndE i e
theorem snd_snoc {es : List Ept} {e : Ept} (h : SndL es) (he : SndE es.length e) : SndL (es ++ [e]) := by
  intro i x hx
  rcases Nat.lt_or_ge i es.length with hi | hi
  · rw [List.getElem?_append_left hi] at hx; exact h i x hx
  · rcases Nat.eq_or_lt_of_le hi with hi | hi
    · subst hi; rw [List.getElem?_append_right (Nat.le_refl _), Nat.sub_self] at hx; simp at hx; subst hx; exact he
    · rw [List.getElem?_eq_none (by simp; omega)] at hx; cases hx
theorem leaf_ok {nm : List UInt8} {k : Nat} (h : nameL[k]? = some nm) {s : Int} (hs : 0 ≤ s ∧ s < 4294967296) {key : Int} (hk : 0 ≤ key ∧ key ≤ 2) : validB (leafC nm 5 2048 (100 + (k : Nat)) 901 key s) = true := by
  have hlt : k < 3 := lt_of_at h
  have hn : named nm = true := by
    have hm := List.mem_of_getElem? h
    revert hm; unfold nameL; intro hm; simp at hm
    rcases hm with rfl | rfl | rfl <;> decide
  refine of_vf ⟨?_, ?_, by show named [114, 111, 111, 116] = true; decide, hn, ?_, by show ofB 5 2048 2 = true; decide +kernel, ?_, ?_, by show ofB 3 0 1 = true; decide +kernel, hk.1, ?_, hs.1, hs.2, by show (0 : Int) ≤ 0; omega, by show (0 : Int) ≤ 901; omega, by show (901 : Int) ≤ 40000; omega, by show (0 : Int) ≤ 0; omega, by show (0 : Int) ≤ 8; omega, .inr rfl⟩
  · show 0 ≤ (100 : Int) + (k : Nat); omega
  · show (100 : Int) + (k : Nat) ≤ _; omega
  · show namesB [nm] = true
    unfold namesB; rw [Bool.and_eq_true]; refine ⟨allI_iff.2 fun j hj => ?_, by simp⟩
    have : j = 0 := by simp at hj; omega
    subst this; unfold nameAt; simp [hn]
  · show 0 ≤ (100 : Int) + (k : Nat); omega
  · show (100 : Int) + (k : Nat) ≤ _; omega
  · show key ≤ _; omega
theorem leaf_tiny {nm : List UInt8} {k : Nat} (h : k < 3) : (leafC nm 5 2048 (100 + (k : Nat)) 901 0 0).tiny :=
  ⟨by show (100 : Int) + (k : Nat) ≤ 40000; omega, by show (100 : Int) + (k : Nat) ≤ 40000; omega, ⟨by show (0 : Int) ≤ 5; omega, by show (5 : Int) ≤ 40000; omega⟩, ⟨by show (0 : Int) ≤ 2048; omega, by show (2048 : Int) ≤ 40000; omega⟩, ⟨by show (0 : Int) ≤ 3; omega, by show (3 : Int) ≤ 40000; omega⟩, ⟨by show (0 : Int) ≤ 0; omega, by show (0 : Int) ≤ 40000; omega⟩⟩
theorem take_get {β : Type} {l : List β} {n k : Nat} {x : β} (h : (l.take n)[k]? = some x) : l[k]? = some x := by
  have hlt := lt_of_at h
  rw [List.length_take] at hlt
  rw [List.getElem?_take, if_pos (by omega)] at h; exact h
theorem sopt_len (i : Int) : (sOpt i).length ≤ 4 := by
  unfold sOpt
  cases h : optS[i.toNat]? with
  | none => show 0 ≤ 4; omega
  | some l =>
    have hm := List.mem_of_getElem? h
    show l.length ≤ 4
    unfold optS at hm; simp at hm
    rcases hm with rfl | rfl | rfl <;> simp
theorem of_334 (s : DS) : s.of [3, 3, 4] = 3 ∨ s.of [3, 3, 4] = 4 := by have := s.of_mem (l := [3, 3, 4]) (by simp); simp at this; exact this
abbrev edR : List Pr := [anyK .i64, anyK .i64]
abbrev sndP (es : List Ept) : Pr := agg [slice 9 (es.map rowEp), (Cp.ex fun m : Nat => slice 2 (List.replicate m edR)), (Cp.ex fun m : Nat => slice 5 (List.replicate m itemR))]

theorem w_Sound {b : Nat} {s : DS}  : FunM Tryz.prog 13 [ptr b 0] (Cp.ex fun es : List Ept => fact ((2 ≤ es.length ∧ es.length ≤ 3) ∧ SndL es) (sndP es)) (diceS b s) (fun _ => diceEx 82 b) := by
 refine FunM.of Tryz.func13 rfl rfl (by exact Nat.le_of_ble_eq_true rfl) fun M0 w0 S rs M1 w1 => ?_
 have hv2 := s.val_in (n := 2) (by omega)
 have hnl : (nameL.take (2 + s.val 2).toNat).length = (2 + s.val 2).toNat := by rw [List.length_take]; show min _ 3 = _; omega
 refine Tr.seq (Tr.regT ?_)
 refine TO.alloc rfl rfl (by decide) rfl z31 zo31 (fun b1 => ?_)
 refine TO.nil (Fin.go (Tr.seq (Tr.regT ?_)))
 refine TO.alloc rfl rfl (by decide) rfl z31 zo31 (fun b2 => ?_)
 refine TO.nil (Fin.go (Tr.seq (Tr.regT (tp rfl (ok_buildSlice (xs := [.const (.string ⟨[97, 112, 112].toArray⟩), .const (.string ⟨[100, 98].toArray⟩), .const (.string ⟨[119, 101, 98].toArray⟩)]) (rows := [[_], [_], [_]]) rfl rfl Tryz.underlying83 sz9 z9 rfl (by decide) ⟨⟨(by exact rfl), (VL.le (vl rfl) (one_cellsP _))⟩, ⟨⟨(by exact rfl), (VL.le (vl rfl) (one_cellsP _))⟩, ⟨⟨(by exact rfl), (VL.le (vl rfl) (one_cellsP _))⟩, trivial⟩⟩⟩ (by decide)) ?_))))
 refine tm rfl (TO.efc 2 rfl rfl (by decide) (ef_callc rfl rfl (by decide) rfl (w_DNext (by omega) (by omega)) ⟨ke rfl, ke rfl, trivial⟩) ?_)
 refine tp rfl (ok_add rfl (vl rfl) (vl rfl) ?hin) ?_; case hin => unfold InI; omega
 refine tp rfl (ok_sliceTo rfl Tryz.underlying83 sz9 ⟨_, rfl, full_le _ _⟩ (vl rfl) (by omega) (by simp; omega)) ?_
 refine tm rfl (TO.nil (Fin.go (Tr.seq (Tr.seq (Tr.reg0 (cm rfl (co rfl (ok_len rfl Tryz.underlying83 (vl rfl)) (cm rfl (Ch.nil (Fin.go (Tr.block ?_)))))))))))
 refine Tr.re 16 rfl (Pr.le_of_eq (by show slice 1 (List.take _ (nameL.map fun t => [str t])) = _; rw [← List.map_take]) : Pr.le _ (txts (nameL.take (2 + s.val 2).toNat))) ?_
 refine Tr.re 17 rfl (int_eq (by simp; rfl) : Pr.le _ (int (((nameL.take (2 + s.val 2).toNat).length : Nat) : Int))) ?_
 refine Tr.reC 0 [andIs (.slice none 0 0) (slice 9 (([] : List Ept).map rowEp)), is (.slice none 0 0), is (.slice none 0 0)] rfl ⟨own_nil rfl, Pr.le_refl _, Pr.le_refl _, trivial⟩ (Tr.addnil 35 9 (Tr.loopD3V1 [(0, _), (2, _), (3, _), (4, _), (16, _), (17, _)] ⟨ke rfl, ke rfl, ke rfl, ke rfl, ke rfl, ke rfl, trivial⟩ (fun (k : Nat) (es : List Ept) (s2 : DS) v => [(18, int ((k : Nat) : Int))]) (fun (k : Nat) (es : List Ept) (s2 : DS) v => Hp M0 w0 S (appRes 35 9 v :: cellsRes true b2 31 [andIs v (slice 9 (es.map rowEp)), is (.slice none 0 0), is (.slice none 0 0)] :: cellsRes true b1 31 (([.slice none 0 0, .slice none 0 0, .slice none 0 0] : List Value).map is) :: diceS b s2 :: extRes M1 w1 :: rs)) (fun (k : Nat) (es : List Ept) (s2 : DS) => k ≤ (2 + s.val 2).toNat ∧ es.length = k ∧ SndL es) (fun (k : Nat) (es : List Ept) (s2 : DS) => (2 + s.val 2).toNat - k) (0) ([]) (_) (.slice none 0 0) (⟨by omega, rfl, fun i e h => by simp at h⟩) ⟨ke rfl, trivial⟩ (fun _ _ h => h) ?_))
 rintro k es s2 v ⟨hk1, hk2, hk3⟩
 refine Tr.seq (Tr.reg0 (co rfl (ki rfl rfl rfl rfl) (Ch.nil (Fin.go (Tr.seq ?_)))))
 refine Tr.cn rfl ?_ ?_ <;> intro h1 q1
 have hkn : k < (2 + s.val 2).toNat := by have := Nrm.nrm h1; rw [hnl] at this; omega
 obtain ⟨nm, hnm⟩ := at_ (l := nameL.take (2 + s.val 2).toNat) (k := k) (by omega)
 have hnm2 : nameL[k]? = some nm := take_get hnm
 have hso := sopt_len (s2.adv.val 3)
 have hk3_ : k < 3 := lt_of_at hnm2
 have hvs := s2.adv.val_in (n := 3) (by omega)
 have hof := of_334 s2
 refine Tr.skip (Fin.go (Tr.seq (Tr.block (Tr.seq (Tr.reg0 (cm rfl (co rfl (ok_indexAddr rfl Tryz.underlying83 sz9 (vl rfl) (vl rfl) (by omega) (row_at hnm)) (co rfl (kl1 rfl one9 rfl) (cm rfl (cm rfl (Ch.nil (Fin.go (Tr.seq (Tr.pad ?_))))))))))))))
 refine Tr.regX mixed [none, none, none, some (0, 4, true, 0), none, none, none, none, none, some (0, 4, true, 0), none, none, none, some (0, 4, true, 0), none, none, none, some (0, 4, true, 0), none, some (0, 0, true, 7), some (7, 0, true, 7)] (by kernel_rfl) (xm rfl (xm rfl (xo rfl (fun _ => ok_buildSlice (xs := [.const (.int .i64 (3)), .const (.int .i64 (3)), .const (.int .i64 (4))]) (rows := [[_], [_], [_]]) rfl rfl Tryz.underlying22 sz3 z3 rfl (by decide) ⟨⟨(by exact rfl), (VL.le (vl rfl) (one_cellsP _))⟩, ⟨⟨(by exact rfl), (VL.le (vl rfl) (one_cellsP _))⟩, ⟨⟨(by exact rfl), (VL.le (vl rfl) (one_cellsP _))⟩, trivial⟩⟩⟩ (by decide)) ?_)))
 refine Cx.ef 4 rfl rfl (by decide) (ef_callc rfl rfl (by decide) rfl (w_DOf (l := [3, 3, 4]) (by simp) (by simp)) ⟨ke rfl, ⟨_, rfl, full_le _ _⟩, trivial⟩) ?_
 refine xo rfl (fun _ => ok_buildSlice (xs := [.const (.int .i64 (10)), .const (.int .i64 (8)), .const (.int .i64 (2))]) (rows := [[_], [_], [_]]) rfl rfl Tryz.underlying22 sz3 z3 rfl (by decide) ⟨⟨(by exact rfl), (VL.le (vl rfl) (one_cellsP _))⟩, ⟨⟨(by exact rfl), (VL.le (vl rfl) (one_cellsP _))⟩, ⟨⟨(by exact rfl), (VL.le (vl rfl) (one_cellsP _))⟩, trivial⟩⟩⟩ (by decide)) ?_
 refine xo rfl (fun _ => ok_buildSlice (xs := [.const (.int .i64 (8)), .const (.int .i64 (2))]) (rows := [[_], [_]]) rfl rfl Tryz.underlying22 sz3 z3 rfl (by decide) ⟨⟨(by exact rfl), (VL.le (vl rfl) (one_cellsP _))⟩, ⟨⟨(by exact rfl), (VL.le (vl rfl) (one_cellsP _))⟩, trivial⟩⟩ (by decide)) ?_
 refine xo rfl (fun _ => ok_buildSlice (xs := [.const (.int .i64 (2)), .const (.int .i64 (10)), .const (.int .i64 (8)), .const (.int .i64 (3))]) (rows := [[_], [_], [_], [_]]) rfl rfl Tryz.underlying22 sz3 z3 rfl (by decide) ⟨⟨(by exact rfl), (VL.le (vl rfl) (one_cellsP _))⟩, ⟨⟨(by exact rfl), (VL.le (vl rfl) (one_cellsP _))⟩, ⟨⟨(by exact rfl), (VL.le (vl rfl) (one_cellsP _))⟩, ⟨⟨(by exact rfl), (VL.le (vl rfl) (one_cellsP _))⟩, trivial⟩⟩⟩⟩ (by decide)) ?_
 refine xo rfl (fun _ => ok_buildSlice (xs := [.tmp 27, .tmp 28, .tmp 29]) (rows := [[_], [_], [_]]) rfl rfl Tryz.underlying84 sz22 z22 rfl (by decide) ⟨⟨(by exact rfl), ⟨_, rfl, Pr.le_trans (full_le _ _) (one_cellsP _)⟩⟩, ⟨⟨(by exact rfl), ⟨_, rfl, Pr.le_trans (full_le _ _) (one_cellsP _)⟩⟩, ⟨⟨(by exact rfl), ⟨_, rfl, Pr.le_trans (full_le _ _) (one_cellsP _)⟩⟩, trivial⟩⟩⟩ (by decide)) ?_
 refine xm rfl (Cx.ef 4 rfl rfl (by decide) (ef_callc rfl rfl (by decide) rfl (w_DNext (by omega) (by omega)) ⟨ke rfl, ke rfl, trivial⟩) ?_)
 refine xo rfl (fun _ => ok_indexAddr rfl Tryz.underlying84 sz22 ⟨_, rfl, full_le _ _⟩ (vl rfl) (by omega) (show (optS.map fun l => [ints l])[_]? = _ from sopt_at hvs)) ?_
 refine xo rfl (fun _ => kl1 rfl one22 rfl) (xm rfl (Cx.ef 4 rfl rfl (by decide) (ef_callc rfl rfl (by decide) rfl (w_DOne (by omega) (by omega)) ⟨ke rfl, ke rfl, trivial⟩) (xo rfl (fun _ => ok_buildSlice (xs := [.const (.int .i64 (1))]) (rows := [[_]]) rfl rfl Tryz.underlying22 sz3 z3 rfl (by decide) ⟨⟨(by exact rfl), (VL.le (vl rfl) (one_cellsP _))⟩, trivial⟩ (by decide)) ?_)))
 refine xo rfl (fun _ => ok_buildSlice (xs := [.const (.int .i64 (2)), .const (.int .i64 (3))]) (rows := [[_], [_]]) rfl rfl Tryz.underlying22 sz3 z3 rfl (by decide) ⟨⟨(by exact rfl), (VL.le (vl rfl) (one_cellsP _))⟩, ⟨⟨(by exact rfl), (VL.le (vl rfl) (one_cellsP _))⟩, trivial⟩⟩ (by decide)) ?_
 refine xm rfl (Cx.ef 4 rfl rfl (by decide) (ef_callc rfl rfl (by decide) rfl (w_DOne (by omega) (by omega)) ⟨ke rfl, ke rfl, trivial⟩) (xo rfl (fun _ => ok_build (rows := [(0, [_]), (1, [_]), (2, [_]), (3, [_]), (4, [_]), (6, [_]), (7, [_]), (8, [_])]) rfl bl35 zo35 ⟨⟨rfl, (VL.le (vl rfl) (one_cellsP _))⟩, ⟨⟨rfl, (VL.le (vl rfl) (one_cellsP _))⟩, ⟨⟨rfl, (VL.le (vl rfl) (one_cellsP _))⟩, ⟨⟨rfl, (VL.le (vl rfl) (one_cellsP _))⟩, ⟨⟨rfl, (VL.le (vl rfl) (one_cellsP _))⟩, ⟨⟨rfl, ⟨_, rfl, Pr.le_trans (full_le _ _) (one_cellsP _)⟩⟩, ⟨⟨rfl, ⟨_, rfl, Pr.le_trans (full_le _ _) (one_cellsP _)⟩⟩, ⟨⟨rfl, (VL.le (vl rfl) (one_cellsP _))⟩, trivial⟩⟩⟩⟩⟩⟩⟩⟩ rfl) (Cx.ef 0 rfl rfl (by decide) (ef_allocX rfl rfl (by decide) rfl z35 zo35) (Cx.ef0 0 rfl rfl (ef_storeX rfl rfl rfl rfl (VL.le (vl rfl) (agg_cellsP _)) sz35 rfl rfl) ?_))))
 refine Cx.nil ⟨rfl, ?_⟩
 refine FinX.open_ 0 7 rfl rfl (fun v1 => ?_)
 refine FinX.done (AllC.cons (AllC.cons (AllC.cons (AllC.cons (AllC.cons (AllC.cons (AllC.map _))))))) (Fin.opn 7 0 _ rfl rfl (fun _ => rfl) (fun b3 => ?_))
 refine Fin.go (wk10 0 2 3 4 5 6 7 16 17 18 rfl (Tr.seq (Tr.seq (Tr.reC 0 [str nm, int 1, int (s2.of [3, 3, 4]), ints (sOpt (s2.adv.val 3)), bool (s2.adv.adv.val 2 == 2 - 1), is (.slice none 0 0), ints [1], ints [2, 3], bool (s2.adv.adv.adv.val 3 == 3 - 1)] rfl ⟨Pr.le_refl _, Pr.le_refl _, Pr.le_refl _, Pr.le_refl _, Pr.le_refl _, Pr.le_refl _, Pr.le_refl _, Pr.le_refl _, Pr.le_refl _, trivial⟩ (Tr.reg0 (co rfl (okp_fieldAddr rfl fo35_2 (vl rfl)) (co rfl (ok_rd 0 rfl (rd_load1 rfl one3 (vl rfl) rfl)) (co rfl (ki rfl rfl rfl rfl) (Ch.nil (Fin.go ?_))))))))))
 refine Tr.cn rfl ?_ ?_ <;> intro h2 q2
 refine Tr.regT (tp rfl (ok_buildSlice (xs := [.const (.int .i64 (14))]) (rows := [[_]]) rfl rfl Tryz.underlying22 sz3 z3 rfl (by decide) ⟨⟨(by exact rfl), (VL.le (vl rfl) (one_cellsP _))⟩, trivial⟩ (by decide)) ?_)
 refine tp rfl (okp_fieldAddr rfl fo35_3 (vl rfl)) (TO.rd 0 rfl rfl rfl (by decide) (rd_load1 rfl one22 (vl rfl) rfl) (TO.pad ?_))
 refine TO.efs 0 rfl rfl (by decide) (ef_append rfl rfl (by decide) rfl Tryz.underlying22 sz3 by3 z3 rfl (by decide) ⟨_, rfl, full_le _ _⟩ (vl rfl) (by simp only [List.length_append, List.length_replicate, List.length_cons, List.length_nil, List.length_map]; unfold maxLen; omega) (by simp only [List.length_append, List.length_replicate, List.length_cons, List.length_nil, List.length_map]; omega) (appR_full (by exact List.Mem.head _) (vl rfl))) (fun v2 => ?_)
 refine tp rfl (okp_fieldAddr rfl fo35_3 (vl rfl)) (TO.ef0 1 rfl rfl (ef_store rfl rfl (vl rfl) (VL.le (vl rfl) (one_cellsP _)) sz22 rfl (by exact Nat.le_of_ble_eq_true rfl) rfl) (TO.nil (Fin.go (wk10 0 2 3 4 5 6 7 16 17 18 rfl (Tr.seq (Tr.regT (tm rfl (tp rfl (ok_call rfl (w_RSA) trivial) (tm rfl ?_)))))))))
 refine tp rfl (ok_add rfl (vl rfl) (vl rfl) ?hin) ?_; case hin => unfold InI; omega
 refine tp rfl (ok_call rfl (w_Leaf (name := nm) (a := 5) (b := 2048) (id := 100 + (k : Nat)) (to := 901) (key := 1) (leaf_ok hnm2 (by omega) (by omega)) (leaf_tiny (by omega)) (by omega)) ⟨ke rfl, ke rfl, ke rfl, ke rfl, ke rfl, trivial⟩) ?_
 refine TO.ex 54 rfl (fun z54 => TO.fact 54 rfl fun hz54 => ?_)
 refine tp rfl (ok_buildSlice (xs := [.tmp 54]) (rows := [_]) rfl rfl Tryz.underlying33 sz47 z47 rfl (by decide) ⟨⟨(by exact rfl), (VL.le (vl rfl) (agg_cellsP _))⟩, trivial⟩ (by decide)) ?_
 refine tp rfl (okp_fieldAddr rfl fo35_5 (vl rfl)) (TO.ef0 1 rfl rfl (ef_store rfl rfl (vl rfl) (VL.le (vl rfl) (one_cellsP _)) sz33 rfl (by exact Nat.le_of_ble_eq_true rfl) rfl) (TO.nil (Fin.go (wk8 0 2 3 4 7 16 17 18 rfl (Tr.regT (tp rfl (okp_fieldAddr rfl fo31_0 (vl rfl)) (TO.rd 3 rfl rfl rfl (by decide) (rd_load1 rfl one27 (vl rfl) rfl) (TO.rd 1 rfl rfl rfl (by decide) (rd_loadA rfl agg35 sz35 (vl rfl) rfl rfl) (tp rfl (ok_buildSlice (xs := [.tmp 59]) (rows := [rowEp (⟨nm, 1, s2.of [3, 3, 4], 14 :: sOpt (s2.adv.val 3), (s2.adv.adv.val 2 == 2 - 1), [leafI nm 5 2048 (100 + (k : Nat)) 901 1 z54], [1], [2, 3], (s2.adv.adv.adv.val 3 == 3 - 1)⟩ : Ept)]) rfl rfl Tryz.underlying27 sz35 z35 rfl (by decide) ⟨⟨(by exact rfl), VL.le (vl rfl) (Pr.le_trans (agg_le (qs := rowEp (⟨nm, 1, s2.of [3, 3, 4], 14 :: sOpt (s2.adv.val 3), (s2.adv.adv.val 2 == 2 - 1), [leafI nm 5 2048 (100 + (k : Nat)) 901 1 z54], [1], [2, 3], (s2.adv.adv.adv.val 3 == 3 - 1)⟩ : Ept)) ⟨Pr.le_refl _, Pr.le_refl _, Pr.le_refl _, Pr.le_trans (andIs_le _ _) (Pr.le_of_eq rfl), Pr.le_refl _, full_le _ _, Pr.le_refl _, Pr.le_refl _, Pr.le_refl _, trivial⟩) (agg_cellsP _))⟩, trivial⟩ (by decide)) ?_)))))))))
 refine TO.efs 2 rfl rfl (by decide) (ef_append rfl rfl (by decide) rfl Tryz.underlying27 sz35 by35 z35 rfl (by decide) ⟨_, rfl, andIs_le _ _⟩ ⟨_, rfl, full_le _ _⟩ (by simp only [List.length_append, List.length_replicate, List.length_cons, List.length_nil, List.length_map]; unfold maxLen; omega) (by simp only [List.length_append, List.length_replicate, List.length_cons, List.length_nil, List.length_map]; omega) (appR_is (by exact List.Mem.head _) ⟨_, rfl, andIs_is _ _⟩)) (fun v3 => ?_)
 refine tp rfl (okp_fieldAddr rfl fo31_0 (vl rfl)) (TO.ef0 3 rfl rfl (ef_store rfl rfl (vl rfl) (VL.le (vl rfl) (one_cellsP _)) sz27 rfl (by exact Nat.le_of_ble_eq_true rfl) rfl) (TO.nil (Fin.block (Fin.go (Tr.drop 1 (wk7 0 2 3 4 16 17 18 rfl (Tr.reg0 (cad rfl rfl rfl rfl (by omega) (cm rfl (Ch.nil ?_))))))))))
 refine Fin.reC 2 [andIs v3 (slice 9 ((es ++ [(⟨nm, 1, s2.of [3, 3, 4], 14 :: sOpt (s2.adv.val 3), (s2.adv.adv.val 2 == 2 - 1), [leafI nm 5 2048 (100 + (k : Nat)) 901 1 z54], [1], [2, 3], (s2.adv.adv.adv.val 3 == 3 - 1)⟩ : Ept)]).map rowEp)), is (.slice none 0 0), is (.slice none 0 0)] rfl ⟨own_le (by rw [List.map_append]; rfl), Pr.le_refl _, Pr.le_refl _, trivial⟩ ?_
 refine Fin.drop 0 ?_
 exact Fin.famD3V1 (k + 1) (es ++ [(⟨nm, 1, s2.of [3, 3, 4], 14 :: sOpt (s2.adv.val 3), (s2.adv.adv.val 2 == 2 - 1), [leafI nm 5 2048 (100 + (k : Nat)) 901 1 z54], [1], [2, 3], (s2.adv.adv.adv.val 3 == 3 - 1)⟩ : Ept)]) (_) v3 (⟨⟨by omega, by rw [List.length_append, hk2]; rfl, snd_snoc hk3 ⟨by rw [hk2]; exact hnm2, rfl, hof, .inr ⟨_, sopt_mem hvs, rfl⟩, ⟨z54, hz54, by rw [hk2]⟩, rfl, rfl⟩⟩, by omega⟩) ⟨⟨_, rfl, int_succ k⟩, ke rfl, ke rfl, ke rfl, ke rfl, ke rfl, ke rfl, trivial⟩ (fun _ _ h => h)
 refine Tr.skip (Fin.go (Tr.seq (Tr.regT (tm rfl (tp rfl (ok_call rfl (w_RSA) trivial) (tm rfl ?_))))))
 refine tp rfl (ok_add rfl (vl rfl) (vl rfl) ?hin) ?_; case hin => unfold InI; omega
 refine tp rfl (ok_call rfl (w_Leaf (name := nm) (a := 5) (b := 2048) (id := 100 + (k : Nat)) (to := 901) (key := 1) (leaf_ok hnm2 (by omega) (by omega)) (leaf_tiny (by omega)) (by omega)) ⟨ke rfl, ke rfl, ke rfl, ke rfl, ke rfl, trivial⟩) ?_
 refine TO.ex 54 rfl (fun z54 => TO.fact 54 rfl fun hz54 => ?_)
 refine tp rfl (ok_buildSlice (xs := [.tmp 54]) (rows := [_]) rfl rfl Tryz.underlying33 sz47 z47 rfl (by decide) ⟨⟨(by exact rfl), (VL.le (vl rfl) (agg_cellsP _))⟩, trivial⟩ (by decide)) ?_
 refine tp rfl (okp_fieldAddr rfl fo35_5 (vl rfl)) (TO.ef0 0 rfl rfl (ef_store rfl rfl (vl rfl) (VL.le (vl rfl) (one_cellsP _)) sz33 rfl (by exact Nat.le_of_ble_eq_true rfl) rfl) (TO.nil (Fin.go (wk8 0 2 3 4 7 16 17 18 rfl (Tr.regT (tp rfl (okp_fieldAddr rfl fo31_0 (vl rfl)) (TO.rd 2 rfl rfl rfl (by decide) (rd_load1 rfl one27 (vl rfl) rfl) (TO.rd 0 rfl rfl rfl (by decide) (rd_loadA rfl agg35 sz35 (vl rfl) rfl rfl) (tp rfl (ok_buildSlice (xs := [.tmp 59]) (rows := [rowEp (⟨nm, 1, s2.of [3, 3, 4], sOpt (s2.adv.val 3), (s2.adv.adv.val 2 == 2 - 1), [leafI nm 5 2048 (100 + (k : Nat)) 901 1 z54], [1], [2, 3], (s2.adv.adv.adv.val 3 == 3 - 1)⟩ : Ept)]) rfl rfl Tryz.underlying27 sz35 z35 rfl (by decide) ⟨⟨(by exact rfl), VL.le (vl rfl) (Pr.le_trans (agg_le (qs := rowEp (⟨nm, 1, s2.of [3, 3, 4], sOpt (s2.adv.val 3), (s2.adv.adv.val 2 == 2 - 1), [leafI nm 5 2048 (100 + (k : Nat)) 901 1 z54], [1], [2, 3], (s2.adv.adv.adv.val 3 == 3 - 1)⟩ : Ept)) ⟨Pr.le_refl _, Pr.le_refl _, Pr.le_refl _, Pr.le_refl _, Pr.le_refl _, full_le _ _, Pr.le_refl _, Pr.le_refl _, Pr.le_refl _, trivial⟩) (agg_cellsP _))⟩, trivial⟩ (by decide)) ?_)))))))))
 refine TO.efs 1 rfl rfl (by decide) (ef_append rfl rfl (by decide) rfl Tryz.underlying27 sz35 by35 z35 rfl (by decide) ⟨_, rfl, andIs_le _ _⟩ ⟨_, rfl, full_le _ _⟩ (by simp only [List.length_append, List.length_replicate, List.length_cons, List.length_nil, List.length_map]; unfold maxLen; omega) (by simp only [List.length_append, List.length_replicate, List.length_cons, List.length_nil, List.length_map]; omega) (appR_is (by exact List.Mem.head _) ⟨_, rfl, andIs_is _ _⟩)) (fun v4 => ?_)
 refine tp rfl (okp_fieldAddr rfl fo31_0 (vl rfl)) (TO.ef0 2 rfl rfl (ef_store rfl rfl (vl rfl) (VL.le (vl rfl) (one_cellsP _)) sz27 rfl (by exact Nat.le_of_ble_eq_true rfl) rfl) (TO.nil (Fin.block (Fin.go (Tr.drop 0 (wk7 0 2 3 4 16 17 18 rfl (Tr.reg0 (cad rfl rfl rfl rfl (by omega) (cm rfl (Ch.nil ?_))))))))))
 refine Fin.reC 1 [andIs v4 (slice 9 ((es ++ [(⟨nm, 1, s2.of [3, 3, 4], sOpt (s2.adv.val 3), (s2.adv.adv.val 2 == 2 - 1), [leafI nm 5 2048 (100 + (k : Nat)) 901 1 z54], [1], [2, 3], (s2.adv.adv.adv.val 3 == 3 - 1)⟩ : Ept)]).map rowEp)), is (.slice none 0 0), is (.slice none 0 0)] rfl ⟨own_le (by rw [List.map_append]; rfl), Pr.le_refl _, Pr.le_refl _, trivial⟩ ?_
 exact Fin.famD3V1 (k + 1) (es ++ [(⟨nm, 1, s2.of [3, 3, 4], sOpt (s2.adv.val 3), (s2.adv.adv.val 2 == 2 - 1), [leafI nm 5 2048 (100 + (k : Nat)) 901 1 z54], [1], [2, 3], (s2.adv.adv.adv.val 3 == 3 - 1)⟩ : Ept)]) (_) v4 (⟨⟨by omega, by rw [List.length_append, hk2]; rfl, snd_snoc hk3 ⟨by rw [hk2]; exact hnm2, rfl, hof, .inl (sopt_mem hvs), ⟨z54, hz54, by rw [hk2]⟩, rfl, rfl⟩⟩, by omega⟩) ⟨⟨_, rfl, int_succ k⟩, ke rfl, ke rfl, ke rfl, ke rfl, ke rfl, ke rfl, trivial⟩ (fun _ _ h => h)
 have hke : k = (2 + s.val 2).toNat := by have := Nrm.nrm h1; rw [hnl] at this; omega
 refine Tr.exit (Fin.then_exit (Fin.then_exit (Fin.block_here (Fin.go (Tr.seq (Tr.seq (Tr.reC 1 [slice 9 (es.map rowEp), is (.slice none 0 0), is (.slice none 0 0)] rfl ⟨andIs_le _ _, Pr.le_refl _, Pr.le_refl _, trivial⟩ (Tr.drop 0 (Tr.reg0 (cm rfl (co rfl (ok_len rfl Tryz.underlying83 (vl rfl)) (cm rfl (Ch.nil (Fin.go ?_))))))))))))))
 refine Tr.block ?_
 refine Tr.re 65 rfl (int_eq (by simp; rfl) : Pr.le _ (int (((nameL.take (2 + s.val 2).toNat).length : Nat) : Int))) ?_
 refine Tr.reC 0 [slice 9 (es.map rowEp), andIs (.slice none 0 0) (slice 2 (List.replicate 0 edR)), is (.slice none 0 0)] rfl ⟨Pr.le_refl _, own_nil rfl, Pr.le_refl _, trivial⟩ (Tr.addnil 88 2 (Tr.loopD3V1 [(0, _), (2, _), (3, _), (4, _), (65, _)] ⟨ke rfl, ke rfl, ke rfl, ke rfl, ke rfl, trivial⟩ (fun (i : Nat) (m : Nat) (s3 : DS) w => [(66, int ((i : Nat) : Int))]) (fun (i : Nat) (m : Nat) (s3 : DS) w => Hp M0 w0 S (appRes 88 2 w :: cellsRes true b2 31 [slice 9 (es.map rowEp), andIs w (slice 2 (List.replicate m edR)), is (.slice none 0 0)] :: cellsRes true b1 31 (([.slice none 0 0, .slice none 0 0, .slice none 0 0] : List Value).map is) :: diceS b s3 :: extRes M1 w1 :: rs)) (fun (i : Nat) (m : Nat) (s3 : DS) => i ≤ (2 + s.val 2).toNat ∧ m ≤ 3) (fun (i : Nat) (m : Nat) (s3 : DS) => (2 + s.val 2).toNat - i) (0) (0) (_) (.slice none 0 0) (⟨by omega, by omega⟩) ⟨ke rfl, trivial⟩ (fun _ _ h => h) ?_))
 rintro i m s3 w ⟨hi1, hi2⟩
 refine Tr.seq (Tr.reg0 (co rfl (ki rfl rfl rfl rfl) (Ch.nil (Fin.go (Tr.seq ?_)))))
 refine Tr.cn rfl ?_ ?_ <;> intro h3 q3
 have hin : i < (2 + s.val 2).toNat := by have := Nrm.nrm h3; rw [hnl] at this; omega
 refine Tr.skip (Fin.go (Tr.seq (Tr.block (Tr.seq (Tr.reg0 (cm rfl (cm rfl (Ch.nil (Fin.go (Tr.seq (Tr.reg0 (cm rfl (co rfl (ok_len rfl Tryz.underlying83 (vl rfl)) ?_)))))))))))))
 refine cm rfl (Ch.nil (Fin.go (Tr.block ?_)))
 refine Tr.re 70 rfl (int_eq (by simp; rfl) : Pr.le _ (int (((nameL.take (2 + s.val 2).toNat).length : Nat) : Int))) ?_
 refine Tr.loopD3V1 [(0, _), (2, _), (3, _), (4, _), (8, _), (65, _), (66, _), (70, _)] ⟨ke rfl, ke rfl, ke rfl, ke rfl, ke rfl, ke rfl, ke rfl, ke rfl, trivial⟩ (fun (j : Nat) (m3 : Nat) (s4 : DS) u => [(71, int ((j : Nat) : Int))]) (fun (j : Nat) (m3 : Nat) (s4 : DS) u => Hp M0 w0 S (appRes 88 2 u :: cellsRes true b2 31 [slice 9 (es.map rowEp), andIs u (slice 2 (List.replicate m3 edR)), is (.slice none 0 0)] :: cellsRes true b1 31 (([.slice none 0 0, .slice none 0 0, .slice none 0 0] : List Value).map is) :: diceS b s4 :: extRes M1 w1 :: rs)) (fun (j : Nat) (m3 : Nat) (s4 : DS) => j ≤ (2 + s.val 2).toNat ∧ m3 ≤ 3) (fun (j : Nat) (m3 : Nat) (s4 : DS) => (2 + s.val 2).toNat - j) (0) (m) (_) w (⟨by omega, by omega⟩) ⟨ke rfl, trivial⟩ (fun _ _ h => h) ?_
 rintro j m3 s4 u ⟨hj1, hj2⟩
 refine Tr.seq (Tr.reg0 (co rfl (ki rfl rfl rfl rfl) (Ch.nil (Fin.go (Tr.seq ?_)))))
 refine Tr.cn rfl ?_ ?_ <;> intro h4 q4
 have hjn : j < (2 + s.val 2).toNat := by have := Nrm.nrm h4; rw [hnl] at this; omega
 have hlm : (List.replicate m3 edR).length = m3 := List.length_replicate
 refine Tr.skip (Fin.go (Tr.seq (Tr.block (Tr.seq (Tr.reg0 (cm rfl (cm rfl (Ch.nil (Fin.go (Tr.seq (Tr.regT (tm rfl (tm rfl ?_)))))))))))))
 refine tp rfl (ki rfl rfl rfl rfl) (tm rfl ?_)
 refine TO.cases 77 rfl (fun h5 => ?_) (fun h5 => ?_)
 have q5 := Nrm.nrm h5
 refine TO.opG rfl rfl rfl h5 rfl (by decide) (ok_move rfl (vl rfl)) (TO.efcG 3 rfl rfl rfl h5 rfl rfl (by decide) (ef_callc rfl rfl (by decide) rfl (w_DNext (by omega) (by omega)) ⟨ke rfl, ke rfl, trivial⟩) (TO.opG rfl rfl rfl h5 rfl (by decide) (ki rfl rfl rfl rfl) (tp rfl (kpt rfl rfl h5 rfl) (tm rfl ?_))))
 refine TO.cases 82 rfl (fun h6 => ?_) (fun h6 => ?_)
 have q6 := Nrm.nrm h6
 refine TO.opG rfl rfl rfl h6 rfl (by decide) (okp_fieldAddr rfl fo31_1 (vl rfl)) (TO.opG rfl rfl rfl h6 rfl (by decide) (ok_rd 1 rfl (rd_load1 rfl one28 (vl rfl) rfl)) (TO.opG rfl rfl rfl h6 rfl (by decide) (ok_len rfl Tryz.underlying28 ⟨_, rfl, andIs_le _ _⟩) (TO.opG rfl rfl rfl h6 rfl (by decide) (ki rfl rfl rfl rfl) (tp rfl (kpt rfl rfl h6 rfl) (TO.nil (Fin.go (wk11 0 2 3 4 8 9 65 66 70 71 87 rfl ?_)))))))
 refine Tr.cn rfl ?_ ?_ <;> intro h7 q7
 refine Tr.regT (tp rfl (okp_fieldAddr rfl fo31_1 (vl rfl)) (TO.rd 1 rfl rfl rfl (by decide) (rd_load1 rfl one28 (vl rfl) rfl) (tm rfl (tm rfl (tp rfl (ok_build (rows := [(0, [_]), (1, [_])]) rfl bl88 zo88 ⟨⟨rfl, (VL.le (vl rfl) (one_cellsP _))⟩, ⟨⟨rfl, (VL.le (vl rfl) (one_cellsP _))⟩, trivial⟩⟩ rfl) (tp rfl (ok_buildSlice (xs := [.tmp 92]) (rows := [edR]) rfl rfl Tryz.underlying28 sz88 z88 rfl (by decide) ⟨⟨(by exact rfl), VL.le (vl rfl) (Pr.le_trans (agg_le (qs := edR) ⟨is_anyK _ _, is_anyK _ _, trivial⟩) (agg_cellsP _))⟩, trivial⟩ (by decide)) ?_))))))
 refine TO.efs 0 rfl rfl (by decide) (ef_append rfl rfl (by decide) rfl Tryz.underlying28 sz88 by88 z88 rfl (by decide) ⟨_, rfl, andIs_le _ _⟩ ⟨_, rfl, full_le _ _⟩ (by simp only [List.length_append, List.length_replicate, List.length_cons, List.length_nil, List.length_map]; unfold maxLen; omega) (by simp only [List.length_append, List.length_replicate, List.length_cons, List.length_nil, List.length_map]; omega) (appR_is (by exact List.Mem.head _) ⟨_, rfl, andIs_is _ _⟩)) (fun v5 => ?_)
 refine tp rfl (okp_fieldAddr rfl fo31_1 (vl rfl)) (TO.ef0 1 rfl rfl (ef_store rfl rfl (vl rfl) (VL.le (vl rfl) (one_cellsP _)) sz28 rfl (by exact Nat.le_of_ble_eq_true rfl) rfl) (TO.nil (Fin.block (Fin.go (wk9 0 2 3 4 8 65 66 70 71 rfl (Tr.reg0 (cad rfl rfl rfl rfl (by omega) (cm rfl (Ch.nil (Fin.reC 1 [slice 9 (es.map rowEp), andIs v5 (slice 2 (List.replicate (m3 + 1) edR)), is (.slice none 0 0)] rfl ⟨Pr.le_refl _, own_le (by rw [rep_one]), Pr.le_refl _, trivial⟩ (Fin.famD3V1 (j + 1) (m3 + 1) (_) v5 (⟨⟨by omega, by omega⟩, by omega⟩) ⟨⟨_, rfl, int_succ j⟩, ke rfl, ke rfl, ke rfl, ke rfl, ke rfl, ke rfl, ke rfl, ke rfl, trivial⟩ (fun _ _ h => h))))))))))))
 refine Tr.skip (Fin.block (Fin.go (Tr.reg0 (cad rfl rfl rfl rfl (by omega) (cm rfl (Ch.nil (Fin.famD3V1 (j + 1) (m3) (_) u (⟨⟨by omega, by omega⟩, by omega⟩) ⟨⟨_, rfl, int_succ j⟩, ke rfl, ke rfl, ke rfl, ke rfl, ke rfl, ke rfl, ke rfl, ke rfl, trivial⟩ (fun _ _ h => h))))))))
 have q6 := Nrm.nrm h6
 iterate 4 refine TO.noG rfl rfl rfl (ne_true h6) rfl (by decide) ?_
 refine tp rfl (kpf rfl rfl h6 rfl) (TO.nil (Fin.go (wk11 0 2 3 4 8 9 65 66 70 71 87 rfl (Tr.cond rfl (fun h => nomatch h) (fun _ => ?_)))))
 refine Tr.skip (Fin.block (Fin.go (Tr.reg0 (cad rfl rfl rfl rfl (by omega) (cm rfl (Ch.nil (Fin.famD3V1 (j + 1) (m3) (_) u (⟨⟨by omega, by omega⟩, by omega⟩) ⟨⟨_, rfl, int_succ j⟩, ke rfl, ke rfl, ke rfl, ke rfl, ke rfl, ke rfl, ke rfl, ke rfl, trivial⟩ (fun _ _ h => h))))))))
 have q5 := Nrm.nrm h5
 refine TO.noG rfl rfl rfl (ne_true h5) rfl (by decide) (TO.noG rfl rfl rfl (ne_true h5) rfl (by decide) (TO.noG rfl rfl rfl (ne_true h5) rfl (by decide) (tp rfl (kpf rfl rfl h5 rfl) (tm rfl ?_))))
 iterate 4 refine TO.noG rfl rfl rfl (ne_true rfl) rfl (by decide) ?_
 refine tp rfl (kpf rfl rfl rfl rfl) (TO.nil (Fin.go (wk11 0 2 3 4 8 9 65 66 70 71 87 rfl (Tr.cond rfl (fun h => nomatch h) (fun _ => ?_)))))
 refine Tr.skip (Fin.block (Fin.go (Tr.reg0 (cad rfl rfl rfl rfl (by omega) (cm rfl (Ch.nil (Fin.famD3V1 (j + 1) (m3) (_) u (⟨⟨by omega, by omega⟩, by omega⟩) ⟨⟨_, rfl, int_succ j⟩, ke rfl, ke rfl, ke rfl, ke rfl, ke rfl, ke rfl, ke rfl, ke rfl, trivial⟩ (fun _ _ h => h))))))))
 have hje : j = (2 + s.val 2).toNat := by have := Nrm.nrm h4; rw [hnl] at this; omega
 refine Tr.exit (Fin.then_exit (Fin.then_exit (Fin.block_here (Fin.block (Fin.go (Tr.reg0 (cad rfl rfl rfl rfl (by omega) (cm rfl (Ch.nil (Fin.famD3V1 (i + 1) (m3) (_) u (⟨⟨by omega, by omega⟩, by omega⟩) ⟨⟨_, rfl, int_succ i⟩, ke rfl, ke rfl, ke rfl, ke rfl, ke rfl, trivial⟩ (fun _ _ h => h)))))))))))
 have hie : i = (2 + s.val 2).toNat := by have := Nrm.nrm h3; rw [hnl] at this; omega
 refine Tr.exit (Fin.then_exit (Fin.then_exit (Fin.block_here (Fin.go (Tr.seq (Tr.seq (Tr.reg0 (co rfl (okp_fieldAddr rfl fo31_1 (vl rfl)) (co rfl (ok_rd 1 rfl (rd_load1 rfl one28 (vl rfl) rfl)) (co rfl (ok_len rfl Tryz.underlying28 ⟨_, rfl, andIs_le _ _⟩) (co rfl (ki rfl rfl rfl rfl) (Ch.nil (Fin.go ?_)))))))))))))
 refine Tr.cn rfl ?_ ?_ <;> intro h8 q8
 refine Tr.regT (tp rfl (ok_build (rows := [(0, [_]), (1, [_])]) rfl bl88 zo88 ⟨⟨rfl, (VL.le (vl rfl) (one_cellsP _))⟩, ⟨⟨rfl, (VL.le (vl rfl) (one_cellsP _))⟩, trivial⟩⟩ rfl) (tp rfl (ok_buildSlice (xs := [.tmp 102]) (rows := [edR]) rfl rfl Tryz.underlying28 sz88 z88 rfl (by decide) ⟨⟨(by exact rfl), VL.le (vl rfl) (Pr.le_trans (agg_le (qs := edR) ⟨is_anyK _ _, is_anyK _ _, trivial⟩) (agg_cellsP _))⟩, trivial⟩ (by decide)) ?_))
 refine tp rfl (okp_fieldAddr rfl fo31_1 (vl rfl)) (TO.ef0 1 rfl rfl (ef_store rfl rfl (vl rfl) (VL.le (vl rfl) (one_cellsP _)) sz28 rfl (by exact Nat.le_of_ble_eq_true rfl) rfl) (TO.nil (Fin.go (wk3 0 2 3 rfl (Tr.seq (Tr.seq ?_))))))
 have hv9 := s3.val_in (n := 3) (by omega)
 refine Tr.reC 1 [slice 9 (es.map rowEp), (Cp.ex fun m : Nat => slice 2 (List.replicate m edR)), is (.slice none 0 0)] rfl ⟨Pr.le_refl _, ex_in 1 (full_le _ _), Pr.le_refl _, trivial⟩ (Tr.drop 0 (Tr.regT (tm rfl (TO.efc 2 rfl rfl (by decide) (ef_callc rfl rfl (by decide) rfl (w_DNext (by omega) (by omega)) ⟨ke rfl, ke rfl, trivial⟩) (tm rfl (TO.nil (Fin.go (Tr.block (Tr.reC 0 [slice 9 (es.map rowEp), (Cp.ex fun m : Nat => slice 2 (List.replicate m edR)), andIs (.slice none 0 0) (slice 5 (List.replicate 0 itemR))] rfl ⟨Pr.le_refl _, Pr.le_refl _, own_nil rfl, trivial⟩ (Tr.addnil 91 5 (Tr.loopD3V1 [(0, _), (2, _), (3, _)] ⟨ke rfl, ke rfl, ke rfl, trivial⟩ (fun (q : Int) (mi : Nat) (s5 : DS) x => [(10, int q)]) (fun (q : Int) (mi : Nat) (s5 : DS) x => Hp M0 w0 S (appRes 91 5 x :: cellsRes true b2 31 [slice 9 (es.map rowEp), (Cp.ex fun m : Nat => slice 2 (List.replicate m edR)), andIs x (slice 5 (List.replicate mi itemR))] :: cellsRes true b1 31 (([.slice none 0 0, .slice none 0 0, .slice none 0 0] : List Value).map is) :: diceS b s5 :: extRes M1 w1 :: rs)) (fun (q : Int) (mi : Nat) (s5 : DS) => 0 ≤ q ∧ q + mi ≤ 3) (fun (q : Int) (mi : Nat) (s5 : DS) => q.toNat) (_) (0) (_) (.slice none 0 0) (⟨by omega, by omega⟩) ⟨ke rfl, trivial⟩ (fun _ _ h => h) ?_)))))))))))
 rintro q mi s5 x ⟨hq1, hq2⟩
 refine Tr.seq (Tr.seq (Tr.reg0 (cm rfl (co rfl (ki rfl rfl rfl rfl) (Ch.nil (Fin.go ?_))))))
 refine Tr.cn rfl ?_ ?_ <;> intro h9 q9
 have hq3 : 0 < q := of_decide_eq_true h9
 refine Tr.skip (Fin.go (Tr.seq (Tr.block (Tr.pad (Tr.regX mixed [none, some (0, 2, false, 0), none, none, none, some (0, 4, true, 0), some (0, 4, true, 0), none, some (0, 1, true, 119), none, some (0, 2, true, 119)] (by kernel_rfl) (xo rfl (fun _ => okp_fieldAddr rfl fo31_2 (vl rfl)) (xrd 2 rfl rfl (rd_load1 rfl one29 (vl rfl) rfl) (xm rfl (xm rfl (xo rfl (fun _ => ok_buildSlice (xs := [.const (.string ⟨[98, 97, 99, 107, 117, 112].toArray⟩), .const (.string ⟨[100, 101, 101, 100].toArray⟩)]) (rows := [[_], [_]]) rfl rfl Tryz.underlying83 sz9 z9 rfl (by decide) ⟨⟨(by exact rfl), (VL.le (vl rfl) (one_cellsP _))⟩, ⟨⟨(by exact rfl), (VL.le (vl rfl) (one_cellsP _))⟩, trivial⟩⟩ (by decide)) ?_))))))))))
 refine Cx.ef 4 rfl rfl (by decide) (ef_callc rfl rfl (by decide) rfl (w_DWordE (l := [[98, 97, 99, 107, 117, 112], [100, 101, 101, 100]]) (by simp) (by simp)) ⟨ke rfl, ⟨_, rfl, full_le _ _⟩, trivial⟩) ?_
 refine Cx.ef 4 rfl rfl (by decide) (ef_callc rfl rfl (by decide) rfl (w_Item) ⟨ke rfl, ke rfl, trivial⟩) (xo rfl (fun _ => ok_buildSlice (xs := [.tmp 117]) (rows := [_]) rfl rfl Tryz.underlying29 sz91 z91 rfl (by decide) ⟨⟨(by exact rfl), (VL.le (vl rfl) (agg_cellsP _))⟩, trivial⟩ (by decide)) ?_)
 refine Cx.ef 1 rfl rfl (by decide) (ef_append rfl rfl (by decide) rfl Tryz.underlying29 sz91 by91 z91 rfl (by decide) ⟨_, rfl, andIs_le _ _⟩ ⟨_, rfl, full_le _ _⟩ (by simp only [List.length_append, List.length_replicate, List.length_cons, List.length_nil, List.length_map]; unfold maxLen; omega) (by simp only [List.length_append, List.length_replicate, List.length_cons, List.length_nil, List.length_map]; omega) (appR_is (by exact List.Mem.head _) ⟨_, rfl, andIs_is _ _⟩)) ?_
 refine xo rfl (fun _ => okp_fieldAddr rfl fo31_2 (vl rfl)) (Cx.ef0 2 rfl rfl (ef_storeS rfl rfl rfl (vl rfl) rfl sz29 (by exact Nat.le_of_ble_eq_true rfl)) ?_)
 refine Cx.nil ⟨rfl, ?_⟩
 refine FinX.open2 1 2 119 rfl rfl (by decide) rfl (fun v6 => ?_)
 refine FinX.done (AllC.cons (AllC.cons (AllC.cons (AllC.cons (AllC.cons (AllC.cons (AllC.map _))))))) (Fin.openD 4 rfl (fun s1 => ?_))
 refine Fin.block (Fin.go (Tr.drop 0 (wk4 0 2 3 10 rfl (Tr.reg0 (cm rfl (csu rfl rfl rfl rfl (by omega) (cm rfl (Ch.nil (Fin.reC 1 [slice 9 (es.map rowEp), (Cp.ex fun m : Nat => slice 2 (List.replicate m edR)), andIs v6 (slice 5 (List.replicate (mi + 1) itemR))] rfl ⟨Pr.le_refl _, Pr.le_refl _, own_le (by rw [rep_one]), trivial⟩ (Fin.famD3V1 (q - 1) (mi + 1) (_) v6 (⟨⟨by omega, by omega⟩, by omega⟩) ⟨⟨_, rfl, int_eq (by omega)⟩, ke rfl, ke rfl, ke rfl, trivial⟩ (fun _ _ h => h)))))))))))
 have hq3 : ¬ 0 < q := of_decide_eq_false h9
 refine Tr.exit (Fin.then_exit (Fin.then_exit (Fin.block_here (Fin.go (Tr.seq (Tr.regT (TO.rd 1 rfl rfl rfl (by decide) (rd_loadA rfl agg31 sz31 (vl rfl) rfl rfl) (TO.store_all 2 rfl rfl rfl (vl rfl) (VL.le (vl rfl) (agg_cellsP _)) rfl sz31 rfl rfl (TO.nil (Fin.go (Tr.ret (Fin.closeD 3 _ rfl rfl (Fin.retY1 [_, _, _] rfl (RVal.cell 2 rfl rfl agg31 sz31 rfl (Pr.le_refl _)) ?_ (fun _ _ _ _ => rfl))))))))))))))
 · exact ex_in es (fact_in ⟨⟨by omega, by omega⟩, hk3⟩ (agg_le ⟨Pr.le_refl _, Pr.le_refl _, Pr.le_trans (andIs_le _ _) (ex_in mi (Pr.le_refl _)), trivial⟩))
 refine Tr.skip (Fin.go (Tr.seq (Tr.seq ?_)))
 have hv9 := s3.val_in (n := 3) (by omega)
 refine Tr.reC 1 [slice 9 (es.map rowEp), (Cp.ex fun m : Nat => slice 2 (List.replicate m edR)), is (.slice none 0 0)] rfl ⟨Pr.le_refl _, Pr.le_trans (andIs_le _ _) (ex_in m (Pr.le_refl _)), Pr.le_refl _, trivial⟩ (Tr.drop 0 (Tr.regT (tm rfl (TO.efc 2 rfl rfl (by decide) (ef_callc rfl rfl (by decide) rfl (w_DNext (by omega) (by omega)) ⟨ke rfl, ke rfl, trivial⟩) (tm rfl (TO.nil (Fin.go (wk4 0 2 3 10 rfl (Tr.block (Tr.reC 0 [slice 9 (es.map rowEp), (Cp.ex fun m : Nat => slice 2 (List.replicate m edR)), andIs (.slice none 0 0) (slice 5 (List.replicate 0 itemR))] rfl ⟨Pr.le_refl _, Pr.le_refl _, own_nil rfl, trivial⟩ (Tr.addnil 91 5 (Tr.loopD3V1 [(0, _), (2, _), (3, _)] ⟨ke rfl, ke rfl, ke rfl, trivial⟩ (fun (q : Int) (mi : Nat) (s5 : DS) x => [(10, int q)]) (fun (q : Int) (mi : Nat) (s5 : DS) x => Hp M0 w0 S (appRes 91 5 x :: cellsRes true b2 31 [slice 9 (es.map rowEp), (Cp.ex fun m : Nat => slice 2 (List.replicate m edR)), andIs x (slice 5 (List.replicate mi itemR))] :: cellsRes true b1 31 (([.slice none 0 0, .slice none 0 0, .slice none 0 0] : List Value).map is) :: diceS b s5 :: extRes M1 w1 :: rs)) (fun (q : Int) (mi : Nat) (s5 : DS) => 0 ≤ q ∧ q + mi ≤ 3) (fun (q : Int) (mi : Nat) (s5 : DS) => q.toNat) (_) (0) (_) (.slice none 0 0) (⟨by omega, by omega⟩) ⟨ke rfl, trivial⟩ (fun _ _ h => h) ?_))))))))))))
 rintro q mi s5 x ⟨hq1, hq2⟩
 refine Tr.seq (Tr.seq (Tr.reg0 (cm rfl (co rfl (ki rfl rfl rfl rfl) (Ch.nil (Fin.go ?_))))))
 refine Tr.cn rfl ?_ ?_ <;> intro h10 q10
 have hq3 : 0 < q := of_decide_eq_true h10
 refine Tr.skip (Fin.go (Tr.seq (Tr.block (Tr.pad (Tr.regX mixed [none, some (0, 2, false, 0), none, none, none, some (0, 4, true, 0), some (0, 4, true, 0), none, some (0, 1, true, 119), none, some (0, 2, true, 119)] (by kernel_rfl) (xo rfl (fun _ => okp_fieldAddr rfl fo31_2 (vl rfl)) (xrd 2 rfl rfl (rd_load1 rfl one29 (vl rfl) rfl) (xm rfl (xm rfl (xo rfl (fun _ => ok_buildSlice (xs := [.const (.string ⟨[98, 97, 99, 107, 117, 112].toArray⟩), .const (.string ⟨[100, 101, 101, 100].toArray⟩)]) (rows := [[_], [_]]) rfl rfl Tryz.underlying83 sz9 z9 rfl (by decide) ⟨⟨(by exact rfl), (VL.le (vl rfl) (one_cellsP _))⟩, ⟨⟨(by exact rfl), (VL.le (vl rfl) (one_cellsP _))⟩, trivial⟩⟩ (by decide)) ?_))))))))))
 refine Cx.ef 4 rfl rfl (by decide) (ef_callc rfl rfl (by decide) rfl (w_DWordE (l := [[98, 97, 99, 107, 117, 112], [100, 101, 101, 100]]) (by simp) (by simp)) ⟨ke rfl, ⟨_, rfl, full_le _ _⟩, trivial⟩) ?_
 refine Cx.ef 4 rfl rfl (by decide) (ef_callc rfl rfl (by decide) rfl (w_Item) ⟨ke rfl, ke rfl, trivial⟩) (xo rfl (fun _ => ok_buildSlice (xs := [.tmp 117]) (rows := [_]) rfl rfl Tryz.underlying29 sz91 z91 rfl (by decide) ⟨⟨(by exact rfl), (VL.le (vl rfl) (agg_cellsP _))⟩, trivial⟩ (by decide)) ?_)
 refine Cx.ef 1 rfl rfl (by decide) (ef_append rfl rfl (by decide) rfl Tryz.underlying29 sz91 by91 z91 rfl (by decide) ⟨_, rfl, andIs_le _ _⟩ ⟨_, rfl, full_le _ _⟩ (by simp only [List.length_append, List.length_replicate, List.length_cons, List.length_nil, List.length_map]; unfold maxLen; omega) (by simp only [List.length_append, List.length_replicate, List.length_cons, List.length_nil, List.length_map]; omega) (appR_is (by exact List.Mem.head _) ⟨_, rfl, andIs_is _ _⟩)) ?_
 refine xo rfl (fun _ => okp_fieldAddr rfl fo31_2 (vl rfl)) (Cx.ef0 2 rfl rfl (ef_storeS rfl rfl rfl (vl rfl) rfl sz29 (by exact Nat.le_of_ble_eq_true rfl)) ?_)
 refine Cx.nil ⟨rfl, ?_⟩
 refine FinX.open2 1 2 119 rfl rfl (by decide) rfl (fun v7 => ?_)
 refine FinX.done (AllC.cons (AllC.cons (AllC.cons (AllC.cons (AllC.cons (AllC.cons (AllC.map _))))))) (Fin.openD 4 rfl (fun s2 => ?_))
 refine Fin.block (Fin.go (Tr.drop 0 (wk4 0 2 3 10 rfl (Tr.reg0 (cm rfl (csu rfl rfl rfl rfl (by omega) (cm rfl (Ch.nil (Fin.reC 1 [slice 9 (es.map rowEp), (Cp.ex fun m : Nat => slice 2 (List.replicate m edR)), andIs v7 (slice 5 (List.replicate (mi + 1) itemR))] rfl ⟨Pr.le_refl _, Pr.le_refl _, own_le (by rw [rep_one]), trivial⟩ (Fin.famD3V1 (q - 1) (mi + 1) (_) v7 (⟨⟨by omega, by omega⟩, by omega⟩) ⟨⟨_, rfl, int_eq (by omega)⟩, ke rfl, ke rfl, ke rfl, trivial⟩ (fun _ _ h => h)))))))))))
 have hq3 : ¬ 0 < q := of_decide_eq_false h10
 refine Tr.exit (Fin.then_exit (Fin.then_exit (Fin.block_here (Fin.go (Tr.seq (Tr.regT (TO.rd 1 rfl rfl rfl (by decide) (rd_loadA rfl agg31 sz31 (vl rfl) rfl rfl) (TO.store_all 2 rfl rfl rfl (vl rfl) (VL.le (vl rfl) (agg_cellsP _)) rfl sz31 rfl rfl (TO.nil (Fin.go (Tr.ret (Fin.closeD 3 _ rfl rfl (Fin.retY1 [_, _, _] rfl (RVal.cell 2 rfl rfl agg31 sz31 rfl (Pr.le_refl _)) ?_ (fun _ _ _ _ => rfl))))))))))))))
 · exact ex_in es (fact_in ⟨⟨by omega, by omega⟩, hk3⟩ (agg_le ⟨Pr.le_refl _, Pr.le_refl _, Pr.le_trans (andIs_le _ _) (ex_in mi (Pr.le_refl _)), trivial⟩))
end Go.Proofs.YtflodcidhlmaaaaGreat
namespace Go.Proofs.YtflodcidhlmaaaaGreat
open Go Go.RowKit Cp

abbrev sndS : List (List Int) := optS ++ optS.map (14 :: ·)
theorem sndE_suites {i : Nat} {e : Ept} (h : SndE i e) : e.suites ∈ sndS := by
  rcases h.suites with h | ⟨l, h, h2⟩
  · exact List.mem_append_left _ h
  · rw [h2]; exact List.mem_append_right _ (List.mem_map_of_mem h)
theorem sndS_ok : ∀ l ∈ sndS, suitesB l = true ∧ l.length ≤ 5 := by decide +kernel
theorem name_ok : ∀ n ∈ nameL, wordB n = true ∧ n.length ≤ 3 := by decide +kernel
theorem hash_ok : [2, 3].all hashB = true := by decide +kernel
theorem of_rsa2 : ofB 5 2048 2 = true := by decide +kernel
theorem leaf_idB {nm : List UInt8} {k : Nat} {id : Int} (h : nameL[k]? = some nm) (hid : id = 100 + (k : Nat)) {s : Int} (hs : 0 ≤ s ∧ s < 4294967296) : idB (leafI nm 5 2048 id 901 1 s) = true := by
  subst hid
  have hk : k < 3 := lt_of_at h
  have hv := leaf_ok h hs (key := 1) (by omega)
  have hk2 : keyB (100 + (k : Nat)) = true := by unfold keyB; simp; omega
  unfold idB showsB; simp only [of_rsa2, hk2, List.all_cons, List.all_nil, hv]; simp
theorem sndE_ok {i : Nat} {e : Ept} (h : SndE i e) : EptOk e := by
  have hn := name_ok _ (List.mem_of_getElem? h.name)
  have hs := sndS_ok _ (sndE_suites h)
  obtain ⟨s, hs1, hs2⟩ := h.ids
  have hm := h.most; have hl := h.least
  refine ⟨hn.1, by omega, by omega, by omega, hs.1, by rw [hs2]; simp, by rw [h.anchors]; simp, by rw [h.anchors]; decide, by rw [h.hashes]; decide, ?_, by rw [h.anchors]; decide, by rw [h.hashes]; exact hash_ok⟩
  rw [hs2]; simp only [List.all_cons, List.all_nil, leaf_idB h.name rfl hs1, Bool.and_self]
theorem sndE_fits {i : Nat} {e : Ept} (h : SndE i e) : e.fits := by
  have hn := name_ok _ (List.mem_of_getElem? h.name)
  obtain ⟨s, hs1, hs2⟩ := h.ids
  refine ⟨by unfold maxLen; omega, fun x hx c hc => ?_⟩
  rw [hs2] at hx; simp at hx; subst hx; simp at hc; subst hc
  exact ⟨by show 4 ≤ maxLen; unfold maxLen; omega, by show e.name.length ≤ maxLen; unfold maxLen; omega, fun n hn2 => by simp at hn2; subst hn2; unfold maxLen; omega⟩
theorem sndE_small {i : Nat} {e : Ept} (h : SndE i e) : e.small := by
  have hs := sndS_ok _ (sndE_suites h)
  obtain ⟨s, hs1, hs2⟩ := h.ids
  refine ⟨by omega, by rw [h.anchors]; simp, by rw [h.hashes]; simp, by rw [hs2]; simp, fun x hx => ?_⟩
  rw [hs2] at hx; simp at hx; subst hx
  exact ⟨by simp, fun c hc => by simp at hc; subst hc; simp⟩
theorem id0_fits : zeroId.fits := fun c hc => by cases hc
end Go.Proofs.YtflodcidhlmaaaaGreat
namespace Go.Proofs.YtflodcidhlmaaaaGreat
open Go Go.RowKit Cp

theorem abrow {v : Int} (h : 0 ≤ v ∧ v < 2) : ([[int 7, int 256], [int 5, int 2048]] : List (List Pr))[v.toNat]? = some [int (if v = 0 then 7 else 5), int (if v = 0 then 256 else 2048)] := by
  have : v = 0 ∨ v = 1 := by omega
  rcases this with rfl | rfl <;> rfl
theorem abok (v : Int) : ((if v = 0 then 7 else 5 : Int) = 5 ∧ (if v = 0 then 256 else 2048 : Int) = 2048) ∨ ((if v = 0 then 7 else 5 : Int) = 7 ∧ (if v = 0 then 256 else 2048 : Int) = 256) := by split <;> simp
theorem leafV {nm : List UInt8} (h : nm ∈ nameL) {a b id key s : Int} (hab : (a = 5 ∧ b = 2048) ∨ (a = 7 ∧ b = 256)) (hid : 0 ≤ id ∧ id ≤ 1000) (hs : 0 ≤ s ∧ s < 4294967296) (hk : 0 ≤ key ∧ key ≤ 2) : validB (leafC nm a b id 901 key s) = true := by
  have hn : named nm = true := by
    revert h; unfold nameL; intro hm; simp at hm
    rcases hm with rfl | rfl | rfl <;> decide
  have hof : ofB a b 2 = true := by rcases hab with ⟨rfl, rfl⟩ | ⟨rfl, rfl⟩ <;> decide +kernel
  refine of_vf ⟨?_, ?_, by show named [114, 111, 111, 116] = true; decide, hn, ?_, hof, ?_, ?_, by show ofB 3 0 1 = true; decide +kernel, hk.1, ?_, hs.1, hs.2, by show (0 : Int) ≤ 0; omega, by show (0 : Int) ≤ 901; omega, by show (901 : Int) ≤ 40000; omega, by show (0 : Int) ≤ 0; omega, by show (0 : Int) ≤ 8; omega, .inr rfl⟩
  · show 0 ≤ id; omega
  · show id ≤ _; omega
  · show namesB [nm] = true
    unfold namesB; rw [Bool.and_eq_true]; refine ⟨allI_iff.2 fun j hj => ?_, by simp⟩
    have : j = 0 := by simp at hj; omega
    subst this; unfold nameAt; simp [hn]
  · show 0 ≤ id; omega
  · show id ≤ _; omega
  · show key ≤ _; omega
theorem leafT {nm : List UInt8} {a b id : Int} (hab : (a = 5 ∧ b = 2048) ∨ (a = 7 ∧ b = 256)) (hid : 0 ≤ id ∧ id ≤ 1000) : (leafC nm a b id 901 0 0).tiny :=
  ⟨by show id ≤ 40000; omega, by show id ≤ 40000; omega, ⟨by show (0 : Int) ≤ a; omega, by show a ≤ 40000; omega⟩, ⟨by show (0 : Int) ≤ b; omega, by show b ≤ 40000; omega⟩, ⟨by show (0 : Int) ≤ 3; omega, by show (3 : Int) ≤ 40000; omega⟩, ⟨by show (0 : Int) ≤ 0; omega, by show (0 : Int) ≤ 40000; omega⟩⟩
abbrev sumP (nm : List UInt8) (a b id to key : Int) : Pr := Cp.ex fun s : Int => fact (0 ≤ s ∧ s < 4294967296) (certs [leafC nm a b id to key s])
theorem leaf_cells {nm : List UInt8} {a b id to key : Int} : (leafE nm a b id to key).le (cellsP [int a, int b, int id, sumP nm a b id to key]) := by
  intro M w v ⟨s, hs, hv⟩
  exact (agg_cellsP [int a, int b, int id, sumP nm a b id to key]) M w v (agg_le (ps := rowId (leafI nm a b id to key s)) (qs := [int a, int b, int id, sumP nm a b id to key]) ⟨Pr.le_refl _, Pr.le_refl _, Pr.le_refl _, fun M w v h => ⟨s, hs, h⟩, trivial⟩ M w v hv)
theorem hl_exL {β : Type} {f : β → Pr} {M : Av} {w : World} : ∀ {ps : List Pr} {cs : List Value}, HL M w (ps ++ [Cp.ex f]) cs → ∃ s, HL M w (ps ++ [f s]) cs
  | [], [c], h => by obtain ⟨⟨s, hs⟩, h2⟩ := h; exact ⟨s, hs, h2⟩
  | [], [], h => h.elim
  | [], _ :: _ :: _, h => h.2.elim
  | p :: ps, [], h => h.elim
  | p :: ps, c :: cs, h => by obtain ⟨s, hs⟩ := hl_exL (ps := ps) (cs := cs) h.2; exact ⟨s, h.1, hs⟩
theorem hl_factL {φ : Prop} {p0 : Pr} {M : Av} {w : World} : ∀ {ps : List Pr} {cs : List Value}, HL M w (ps ++ [fact φ p0]) cs → HL M w (ps ++ [p0]) cs
  | [], [c], h => ⟨h.1.2, h.2⟩
  | [], [], h => h.elim
  | [], _ :: _ :: _, h => h.2.elim
  | p :: ps, [], h => h.elim
  | p :: ps, c :: cs, h => ⟨h.1, hl_factL (ps := ps) (cs := cs) h.2⟩
theorem leafF {nm : List UInt8} (h : nm ∈ nameL) {a b id key s : Int} : (leafI nm a b id 901 key s).fits ∧ (leafI nm a b id 901 key s).small := by
  have hn := (name_ok _ h).2
  refine ⟨fun c hc => ?_, ⟨by simp, fun c hc => by simp at hc; subst hc; simp⟩⟩
  simp at hc; subst hc
  exact ⟨by show 4 ≤ maxLen; unfold maxLen; omega, by show nm.length ≤ maxLen; unfold maxLen; omega, fun n hn2 => by simp at hn2; subst hn2; unfold maxLen; omega⟩

end Go.Proofs.YtflodcidhlmaaaaGreat
namespace Go.Proofs.YtflodcidhlmaaaaGreat
open Go Go.RowKit Cp

/-- Of some size. -/
structure Ept.sz (e : Ept) (n : Nat) : Prop where
  name : e.name.length ≤ maxLen
  suites : e.suites.length ≤ n
  anchors : e.anchors.length ≤ n
  hashes : e.hashes.length ≤ n
  idl : e.ids.length ≤ n
  ids : ∀ x ∈ e.ids, x.fits ∧ x.small
theorem Ept.sz.fits {e : Ept} {n : Nat} (h : e.sz n) : e.fits := ⟨h.name, fun x hx => (h.ids x hx).1⟩
theorem Ept.sz.small {e : Ept} {n : Nat} (h : e.sz n) (hn : n ≤ 1000000) : e.small := ⟨by have := h.suites; omega, by have := h.anchors; omega, by have := h.hashes; omega, by have := h.idl; omega, fun x hx => (h.ids x hx).2⟩
theorem Ept.sz.le {e : Ept} {n m : Nat} (h : e.sz n) (hn : n ≤ m) : e.sz m := ⟨h.name, Nat.le_trans h.suites hn, Nat.le_trans h.anchors hn, Nat.le_trans h.hashes hn, Nat.le_trans h.idl hn, h.ids⟩
theorem sndE_sz {i : Nat} {e : Ept} (h : SndE i e) : e.sz 5 := by
  have hs := sndS_ok _ (sndE_suites h)
  have h1 := sndE_fits h; have h2 := sndE_small h
  obtain ⟨s, hs1, hs2⟩ := h.ids
  exact ⟨h1.name, hs.2, by rw [h.anchors]; simp, by rw [h.hashes]; simp, by rw [hs2]; simp, fun x hx => ⟨h1.ids x hx, h2.ids x hx⟩⟩
theorem len_ins {α : Type} {l : List α} {a : α} {i : Nat} : (l.take i ++ [a] ++ l.drop i).length ≤ l.length + 1 := by simp [List.length_take, List.length_drop]; omega
theorem len_del {α : Type} {l : List α} {i : Nat} : (l.eraseIdx i).length ≤ l.length := by rw [List.length_eraseIdx]; split <;> omega
theorem id0_fs : zeroId.fits ∧ zeroId.small := ⟨id0_fits, id0_small⟩
theorem mem_ins {P : Idn → Prop} {l : List Idn} {x : Idn} {i : Nat} (h : ∀ y ∈ l, P y) (hx : P x) : ∀ y ∈ l.take i ++ [x] ++ l.drop i, P y := by
  intro y hy
  simp only [List.mem_append, List.mem_cons, List.not_mem_nil, or_false] at hy
  rcases hy with (hy | rfl) | hy
  · exact h y (List.mem_of_mem_take hy)
  · exact hx
  · exact h y (List.mem_of_mem_drop hy)
theorem sz_step {e : Ept} {c : Chg} {x : Ept} {b : Chg} {n : Nat} (hc : okCh c) (h : stepR e c = .ok (x, b)) (hs : e.sz n) (hi : c.idn.fits ∧ c.idn.small) : x.sz (n + 1) ∧ b.idn.fits ∧ b.idn.small := by
  have h1 := hs.suites; have h2 := hs.anchors; have h3 := hs.hashes; have h4 := hs.idl
  rcases kinds12 hc.1 with hk | hk | hk | hk | hk | hk | hk | hk | hk | hk | hk | hk
  · rw [stepR_1 hk] at h; (repeat' (split at h)) <;> first | (cases h; done) | (injection h with h; obtain ⟨rfl, rfl⟩ := Prod.mk.inj h; exact ⟨⟨hs.name, Nat.le_trans len_ins (by omega), Nat.le_trans h2 (by omega), Nat.le_trans h3 (by omega), Nat.le_trans h4 (by omega), hs.ids⟩, id0_fs⟩)
  · rw [stepR_2 hk] at h; (repeat' (split at h)) <;> first | (cases h; done) | (injection h with h; obtain ⟨rfl, rfl⟩ := Prod.mk.inj h; exact ⟨⟨hs.name, Nat.le_trans len_del (by omega), Nat.le_trans h2 (by omega), Nat.le_trans h3 (by omega), Nat.le_trans h4 (by omega), hs.ids⟩, id0_fs⟩)
  · rw [stepR_3 hk] at h; (repeat' (split at h)) <;> first | (cases h; done) | (injection h with h; obtain ⟨rfl, rfl⟩ := Prod.mk.inj h; exact ⟨⟨hs.name, Nat.le_trans h1 (by omega), Nat.le_trans h2 (by omega), Nat.le_trans h3 (by omega), Nat.le_trans h4 (by omega), hs.ids⟩, id0_fs⟩)
  · rw [stepR_4 hk] at h; (repeat' (split at h)) <;> first | (cases h; done) | (injection h with h; obtain ⟨rfl, rfl⟩ := Prod.mk.inj h; exact ⟨⟨hs.name, Nat.le_trans h1 (by omega), Nat.le_trans h2 (by omega), Nat.le_trans h3 (by omega), Nat.le_trans h4 (by omega), hs.ids⟩, id0_fs⟩)
  · rw [stepR_5 hk] at h; (repeat' (split at h)) <;> first | (cases h; done) | (injection h with h; obtain ⟨rfl, rfl⟩ := Prod.mk.inj h; exact ⟨⟨hs.name, Nat.le_trans h1 (by omega), Nat.le_trans h2 (by omega), Nat.le_trans h3 (by omega), Nat.le_trans len_ins (by omega), mem_ins hs.ids hi⟩, id0_fs⟩)
  · rw [stepR_6 hk] at h; (repeat' (split at h)) <;> first | (cases h; done) | (injection h with h; obtain ⟨rfl, rfl⟩ := Prod.mk.inj h; exact ⟨⟨hs.name, Nat.le_trans h1 (by omega), Nat.le_trans h2 (by omega), Nat.le_trans h3 (by omega), Nat.le_trans len_del (by omega), fun y hy => hs.ids y (List.mem_of_mem_eraseIdx hy)⟩, hs.ids _ (List.mem_of_getElem? (by assumption))⟩)
  · rw [stepR_7 hk] at h; (repeat' (split at h)) <;> first | (cases h; done) | (injection h with h; obtain ⟨rfl, rfl⟩ := Prod.mk.inj h; exact ⟨⟨hs.name, Nat.le_trans h1 (by omega), Nat.le_trans len_ins (by omega), Nat.le_trans h3 (by omega), Nat.le_trans h4 (by omega), hs.ids⟩, id0_fs⟩)
  · rw [stepR_8 hk] at h; (repeat' (split at h)) <;> first | (cases h; done) | (injection h with h; obtain ⟨rfl, rfl⟩ := Prod.mk.inj h; exact ⟨⟨hs.name, Nat.le_trans h1 (by omega), Nat.le_trans len_del (by omega), Nat.le_trans h3 (by omega), Nat.le_trans h4 (by omega), hs.ids⟩, id0_fs⟩)
  · rw [stepR_9 hk] at h; (repeat' (split at h)) <;> first | (cases h; done) | (injection h with h; obtain ⟨rfl, rfl⟩ := Prod.mk.inj h; exact ⟨⟨hs.name, Nat.le_trans h1 (by omega), Nat.le_trans h2 (by omega), Nat.le_trans len_ins (by omega), Nat.le_trans h4 (by omega), hs.ids⟩, id0_fs⟩)
  · rw [stepR_10 hk] at h; (repeat' (split at h)) <;> first | (cases h; done) | (injection h with h; obtain ⟨rfl, rfl⟩ := Prod.mk.inj h; exact ⟨⟨hs.name, Nat.le_trans h1 (by omega), Nat.le_trans h2 (by omega), Nat.le_trans len_del (by omega), Nat.le_trans h4 (by omega), hs.ids⟩, id0_fs⟩)
  · rw [stepR_11 hk] at h; (repeat' (split at h)) <;> first | (cases h; done) | (injection h with h; obtain ⟨rfl, rfl⟩ := Prod.mk.inj h; exact ⟨⟨hs.name, Nat.le_trans h1 (by omega), Nat.le_trans h2 (by omega), Nat.le_trans h3 (by omega), Nat.le_trans h4 (by omega), hs.ids⟩, id0_fs⟩)
  · rw [stepR_12 hk] at h; (repeat' (split at h)) <;> first | (cases h; done) | (injection h with h; obtain ⟨rfl, rfl⟩ := Prod.mk.inj h; exact ⟨⟨hs.name, Nat.le_trans h1 (by omega), Nat.le_trans h2 (by omega), Nat.le_trans h3 (by omega), Nat.le_trans h4 (by omega), hs.ids⟩, id0_fs⟩)

theorem sz_done {e : Ept} {c : Chg} {x : Ept} {b : Chg} {n : Nat} (h : doneR e c = (x, b, 0)) (hs : e.sz n) (hi : c.idn.fits ∧ c.idn.small) : x.sz (n + 1) ∧ b.idn.fits ∧ b.idn.small := by
  obtain ⟨_, h2, h3, _⟩ := doneR_inv h
  exact sz_step h2 h3 hs hi
end Go.Proofs.YtflodcidhlmaaaaGreat
namespace Go.Proofs.YtflodcidhlmaaaaGreat
open Go Go.RowKit Cp
theorem w_SEqI {a b : List (Int)}  : Fun Tryz.prog 105 [ints a, ints b] (bool (decide (a = b))) := by
 refine fo Tryz.func105 rfl ⟨rfl, rfl⟩ fun M0 w0 => (Tr.lenm 0 rfl fun hlm_0 => (Tr.lenm 1 rfl fun hlm_1 => ?_))
 refine ac ?_
 refine ac ?_
 refine Tr.cn rfl ?_ ?_ <;> intro h1 q1
 have hne : ¬ a.length = b.length := by simp_all; omega
 refine ac ?_
 refine ac ?_
 · refine bool_eq ?_; symm; rw [decide_eq_false_iff_not]; rintro rfl; exact hne rfl
 have hll : a.length = b.length := by simp_all; omega
 refine ac ?_
 refine ac ?_
 refine Tr.block (Tr.loopw [(0, _), (1, _), (12, _)] (kk3 rfl) (fun k : Nat => [(13, int ((k : Nat) : Int))]) (fun k : Nat => k ≤ (a).length ∧ (a.take k = b.take k)) (fun k : Nat => (a).length - k) 0 (⟨Nat.zero_le _, rfl⟩) ⟨ke rfl, trivial⟩ ?_)
 rintro k ⟨hle_k, hinv_k⟩
 refine ac ?_
 refine Tr.seq ?_
 refine Tr.cn rfl ?_ ?_ <;> intro h2 q2
 have hk_k : k < (a).length := lt_of_dec h2
 obtain ⟨x, hx_k⟩ := at_ hk_k
 obtain ⟨y, hy⟩ := at_ (l := b) (k := k) (by omega)
 refine ac ?_
 refine ac ?_
 refine ac ?_
 refine co rfl (ok_indexAddr rfl Tryz.underlying22 sz3 (vl rfl) (vl rfl) (by omega) (row_at hx_k)) ?_
 refine ac ?_
 refine co rfl (ok_indexAddr rfl Tryz.underlying22 sz3 (vl rfl) (vl rfl) (by omega) (row_at hy)) ?_
 refine ac ?_
 refine wk5 0 1 12 13 24 rfl ?_
 refine Tr.cn rfl ?_ ?_ <;> intro h3 q3
 refine ac ?_
 refine ac ?_
 · refine bool_eq ?_; symm; rw [decide_eq_false_iff_not]; refine sameN hx_k hy ?_; rintro rfl; simp_all
 refine ac ?_
 refine ac ?_
 exact Fin.fam_same (k + 1) ⟨⟨hk_k, sameY hx_k hy hinv_k (by simp_all)⟩, by omega⟩ ⟨⟨_, rfl, int_succ k⟩, ke rfl, ke rfl, ke rfl, trivial⟩
 have he_k : k = (a).length := by have := ge_of_dec h2; omega
 subst he_k
 refine ac ?_
 refine ac ?_
 refine ac ?_
 · refine bool_eq ?_; symm; rw [decide_eq_true_eq]; exact sameA hll hinv_k
theorem w_SEqT {a b : List (List UInt8)}  : Fun Tryz.prog 118 [txts a, txts b] (bool (decide (a = b))) := by
 refine fo Tryz.func118 rfl ⟨rfl, rfl⟩ fun M0 w0 => (Tr.lenm 0 rfl fun hlm_0 => (Tr.lenm 1 rfl fun hlm_1 => ?_))
 refine ac ?_
 refine ac ?_
 refine Tr.cn rfl ?_ ?_ <;> intro h1 q1
 have hne : ¬ a.length = b.length := by simp_all; omega
 refine ac ?_
 refine ac ?_
 · refine bool_eq ?_; symm; rw [decide_eq_false_iff_not]; rintro rfl; exact hne rfl
 have hll : a.length = b.length := by simp_all; omega
 refine ac ?_
 refine ac ?_
 refine Tr.block (Tr.loopw [(0, _), (1, _), (12, _)] (kk3 rfl) (fun k : Nat => [(13, int ((k : Nat) : Int))]) (fun k : Nat => k ≤ (a).length ∧ (a.take k = b.take k)) (fun k : Nat => (a).length - k) 0 (⟨Nat.zero_le _, rfl⟩) ⟨ke rfl, trivial⟩ ?_)
 rintro k ⟨hle_k, hinv_k⟩
 refine ac ?_
 refine Tr.seq ?_
 refine Tr.cn rfl ?_ ?_ <;> intro h2 q2
 have hk_k : k < (a).length := lt_of_dec h2
 obtain ⟨x, hx_k⟩ := at_ hk_k
 obtain ⟨y, hy⟩ := at_ (l := b) (k := k) (by omega)
 refine ac ?_
 refine ac ?_
 refine ac ?_
 refine co rfl (ok_indexAddr rfl Tryz.underlying83 sz9 (vl rfl) (vl rfl) (by omega) (row_at hx_k)) ?_
 refine ac ?_
 refine co rfl (ok_indexAddr rfl Tryz.underlying83 sz9 (vl rfl) (vl rfl) (by omega) (row_at hy)) ?_
 refine ac ?_
 refine wk5 0 1 12 13 24 rfl ?_
 refine Tr.cn rfl ?_ ?_ <;> intro h3 q3
 refine ac ?_
 refine ac ?_
 · refine bool_eq ?_; symm; rw [decide_eq_false_iff_not]; refine sameN hx_k hy ?_; rintro rfl; simp_all
 refine ac ?_
 refine ac ?_
 exact Fin.fam_same (k + 1) ⟨⟨hk_k, sameY hx_k hy hinv_k (by simp_all)⟩, by omega⟩ ⟨⟨_, rfl, int_succ k⟩, ke rfl, ke rfl, ke rfl, trivial⟩
 have he_k : k = (a).length := by have := ge_of_dec h2; omega
 subst he_k
 refine ac ?_
 refine ac ?_
 refine ac ?_
 · refine bool_eq ?_; symm; rw [decide_eq_true_eq]; exact sameA hll hinv_k
abbrev epts (l : List Ept) : Pr := slice 9 (l.map rowEp)

theorem w_CSame {a b : Crt}  : Fun Tryz.prog 104 [agg (rowCr a), agg (rowCr b)] (bool (decide (a = b))) := by
 refine fo Tryz.func104 rfl ⟨rfl, rfl⟩ fun M0 w0 => ?_
 refine ac ?_
 refine wk2 2 3 rfl (Tr.cutk [2, 3] [(5, bool (decide (a.serial = b.serial ∧ a.issuer = b.issuer ∧ a.subject = b.subject ∧ a.names = b.names)))] (True) ?_ (fun h1 => ?_))
 refine ac ?_
 refine Ch.cs 12 rfl ?_ ?_ <;> intro h2 q2
 refine ac ?_
 refine Ch.cs 19 rfl ?_ ?_ <;> intro h3 q3
 refine ac ?_
 refine Ch.cs 26 rfl ?_ ?_ <;> intro h4 q4
 refine ac ?_
 refine cy h4 rfl (kc2 (w_SEqT) rfl rfl rfl) ?_
 refine ac ?_
 exact Fin.fam_same () (by simp_all) ⟨⟨_, rfl, bool_eq (by simp_all)⟩, ke rfl, ke rfl, trivial⟩
 refine ac ?_
 exact Fin.fam_same () (by simp_all) ⟨⟨_, rfl, bool_eq (by simp_all)⟩, ke rfl, ke rfl, trivial⟩
 refine ac ?_
 exact Fin.fam_same () (by simp_all) ⟨⟨_, rfl, bool_eq (by simp_all)⟩, ke rfl, ke rfl, trivial⟩
 refine ac ?_
 exact Fin.fam_same () (by simp_all) ⟨⟨_, rfl, bool_eq (by simp_all)⟩, ke rfl, ke rfl, trivial⟩
 refine wk3 2 3 5 rfl (Tr.cutk [2, 3, 5] [(6, bool (decide (a.kalg = b.kalg ∧ a.kbits = b.kbits ∧ a.keyId = b.keyId ∧ a.halg = b.halg ∧ a.hbits = b.hbits ∧ a.skey = b.skey ∧ a.ssum = b.ssum)))] (True) ?_ (fun h5 => ?_))
 refine ac ?_
 refine co rfl (ok_eq44 rfl (vl rfl) (vl rfl)) (cm rfl ?_)
 refine Ch.cs 38 rfl ?_ ?_ <;> intro h6 q6
 refine ac ?_
 refine Ch.cs 45 rfl ?_ ?_ <;> intro h7 q7
 refine ac ?_
 refine cy h7 rfl (ok_eq44 rfl (vl rfl) (vl rfl)) ?_
 refine ac ?_
 refine Ch.cs 52 rfl ?_ ?_ <;> intro h8 q8
 refine ac ?_
 refine cy h8 rfl (ok_eq124 rfl (vl rfl) (vl rfl)) ?_
 refine ac ?_
 exact Fin.fam_same () (by simp_all) ⟨⟨_, rfl, bool_eq (by simp_all)⟩, ke rfl, ke rfl, ke rfl, trivial⟩
 refine ac ?_
 exact Fin.fam_same () (by simp_all) ⟨⟨_, rfl, bool_eq (by simp_all)⟩, ke rfl, ke rfl, ke rfl, trivial⟩
 refine ac ?_
 exact Fin.fam_same () (by simp_all) ⟨⟨_, rfl, bool_eq (by simp_all)⟩, ke rfl, ke rfl, ke rfl, trivial⟩
 refine ac ?_
 exact Fin.fam_same () (by simp_all) ⟨⟨_, rfl, bool_eq (by simp_all)⟩, ke rfl, ke rfl, ke rfl, trivial⟩
 refine ac ?_
 refine Ch.cs 60 rfl ?_ ?_ <;> intro h9 q9
 refine ac ?_
 refine Ch.cs 63 rfl ?_ ?_ <;> intro h10 q10
 refine ac ?_
 refine Ch.cs 70 rfl ?_ ?_ <;> intro h11 q11
 refine ac ?_
 refine Ch.cs 77 rfl ?_ ?_ <;> intro h12 q12
 refine ac ?_
 refine Ch.cs 84 rfl ?_ ?_ <;> intro h13 q13
 refine ac ?_
 refine wk1 4 rfl ?_
 refine ac ?_
 · refine bool_eq ?_; cases a; cases b; simp_all [Bool.beq_eq_decide_eq]
 refine ac ?_
 refine wk1 4 rfl ?_
 refine ac ?_
 · refine bool_eq ?_; cases a; cases b; simp_all [Bool.beq_eq_decide_eq]
 refine ac ?_
 refine wk1 4 rfl ?_
 refine ac ?_
 · refine bool_eq ?_; cases a; cases b; simp_all [Bool.beq_eq_decide_eq]
 refine ac ?_
 refine wk1 4 rfl ?_
 refine ac ?_
 · refine bool_eq ?_; cases a; cases b; simp_all [Bool.beq_eq_decide_eq]
 refine ac ?_
 refine wk1 4 rfl ?_
 refine ac ?_
 · refine bool_eq ?_; cases a; cases b; simp_all [Bool.beq_eq_decide_eq]
 refine ac ?_
 refine wk1 4 rfl ?_
 refine ac ?_
 · refine bool_eq ?_; cases a; cases b; simp_all [Bool.beq_eq_decide_eq]
theorem e_CSame : Entry Tryz.prog 104 := ⟨_, Tryz.func104, rfl, rfl⟩
theorem w_EqFC {a b : List Crt}  : Fun Tryz.prog 79 [certs a, certs b, clo Tryz.prog (fun p : Crt × Crt => [agg (rowCr p.1), agg (rowCr p.2)]) (fun p => bool (decide (p.1 = p.2)))] (bool (decide (a = b))) := by
 refine fo Tryz.func79 rfl ⟨rfl, rfl⟩ fun M0 w0 => (Tr.lenm 0 rfl fun hlm_0 => (Tr.lenm 1 rfl fun hlm_1 => ?_))
 refine ac ?_
 refine ac ?_
 refine Tr.cn rfl ?_ ?_ <;> intro h1 q1
 have hne : ¬ a.length = b.length := by simp_all; omega
 refine ac ?_
 refine ac ?_
 · refine bool_eq ?_; symm; rw [decide_eq_false_iff_not]; rintro rfl; exact hne rfl
 have hll : a.length = b.length := by simp_all; omega
 refine ac ?_
 refine ac ?_
 refine Tr.block (Tr.loopw [(1, _), (2, _), (15, _), (16, _)] (kk4 rfl) (fun k : Nat => [(17, int ((k : Nat) : Int))]) (fun k : Nat => k ≤ (a).length ∧ (a.take k = b.take k)) (fun k : Nat => (a).length - k) 0 (⟨Nat.zero_le _, rfl⟩) ⟨ke rfl, trivial⟩ ?_)
 rintro k ⟨hle_k, hinv_k⟩
 refine ac ?_
 refine Tr.seq ?_
 refine Tr.cn rfl ?_ ?_ <;> intro h2 q2
 have hk_k : k < (a).length := lt_of_dec h2
 obtain ⟨x, hx_k⟩ := at_ hk_k
 obtain ⟨y, hy⟩ := at_ (l := b) (k := k) (by omega)
 refine ac ?_
 refine ao ?_
 refine tp rfl (ok_indexAddr rfl Tryz.underlying45 sz126 (vl rfl) (vl rfl) (by omega) (row_at hx_k)) (tp rfl (ok_loadA rfl agg126 sz126 (vl rfl) rfl rfl) ?_)
 refine TO.alloc rfl rfl (by decide) rfl z126 zo126 (fun b1 => ?_)
 refine tm rfl ?_
 refine sf 0 8 ⟨rfl, rfl, rfl⟩ rfl rfl rfl rfl ?_
 refine ao ?_
 refine ao ?_
 refine tp rfl (ok_indexAddr rfl Tryz.underlying45 sz126 (vl rfl) (vl rfl) (by omega) (row_at hy)) (tp rfl (ok_loadA rfl agg126 sz126 (vl rfl) rfl rfl) ?_)
 refine TO.alloc rfl rfl (by decide) rfl z126 zo126 (fun b2 => ?_)
 refine sf 0 9 ⟨rfl, rfl, rfl⟩ rfl rfl rfl rfl ?_
 refine ao ?_
 refine wk7 1 2 8 9 15 16 17 rfl ?_
 refine ac ?_
 refine co rfl (ok_callc (x, y) rfl (vl rfl) ⟨ke rfl, ke rfl, trivial⟩) ?_
 refine ac ?_
 refine Tr.cn rfl ?_ ?_ <;> intro h3 q3
 refine ac ?_
 refine ac ?_
 · refine bool_eq ?_; symm; rw [decide_eq_false_iff_not]; refine sameN hx_k hy ?_; rintro rfl; simp_all
 refine ac ?_
 refine ac ?_
 exact Fin.fam_same (k + 1) ⟨⟨hk_k, sameY hx_k hy hinv_k (by simp_all)⟩, by omega⟩ ⟨⟨_, rfl, int_succ k⟩, ke rfl, ke rfl, ke rfl, ke rfl, trivial⟩
 have he_k : k = (a).length := by have := ge_of_dec h2; omega
 subst he_k
 refine ac ?_
 refine ac ?_
 refine ac ?_
 · refine bool_eq ?_; symm; rw [decide_eq_true_eq]; exact sameA hll hinv_k
theorem w_ES1 {a b : Idn}  : Fun Tryz.prog 103 [agg (rowId a), agg (rowId b)] (bool (decide (a = b))) := by
 refine fo Tryz.func103 rfl ⟨rfl, rfl⟩ fun M0 w0 => ?_
 refine ac ?_
 refine ac ?_
 refine co rfl (ok_eq44 rfl (vl rfl) (vl rfl)) (cm rfl ?_)
 refine Ch.cs 10 rfl ?_ ?_ <;> intro h1 q1
 refine ac ?_
 refine Ch.cs 17 rfl ?_ ?_ <;> intro h2 q2
 refine ac ?_
 refine cy h2 rfl (ok_call rfl (w_EqFC) ⟨ke rfl, ke rfl, ⟨_, rfl, fn_le_clo (dom := fun p : Crt × Crt => [agg (rowCr p.1), agg (rowCr p.2)]) (res := fun p => bool (decide (p.1 = p.2))) e_CSame (fun p => w_CSame (a := p.1) (b := p.2))⟩, trivial⟩) ?_
 refine ac ?_
 refine wk1 4 rfl ?_
 refine ac ?_
 · refine bool_eq ?_; cases a; cases b; simp_all [Bool.beq_eq_decide_eq]
 refine ac ?_
 refine wk1 4 rfl ?_
 refine ac ?_
 · refine bool_eq ?_; cases a; cases b; simp_all [Bool.beq_eq_decide_eq]
 refine ac ?_
 refine wk1 4 rfl ?_
 refine ac ?_
 · refine bool_eq ?_; cases a; cases b; simp_all [Bool.beq_eq_decide_eq]
theorem e_ES1 : Entry Tryz.prog 103 := ⟨_, Tryz.func103, rfl, rfl⟩
theorem w_EqFN {a b : List Idn}  : Fun Tryz.prog 106 [idns a, idns b, clo Tryz.prog (fun p : Idn × Idn => [agg (rowId p.1), agg (rowId p.2)]) (fun p => bool (decide (p.1 = p.2)))] (bool (decide (a = b))) := by
 refine fo Tryz.func106 rfl ⟨rfl, rfl⟩ fun M0 w0 => (Tr.lenm 0 rfl fun hlm_0 => (Tr.lenm 1 rfl fun hlm_1 => ?_))
 refine ac ?_
 refine ac ?_
 refine Tr.cn rfl ?_ ?_ <;> intro h1 q1
 have hne : ¬ a.length = b.length := by simp_all; omega
 refine ac ?_
 refine ac ?_
 · refine bool_eq ?_; symm; rw [decide_eq_false_iff_not]; rintro rfl; exact hne rfl
 have hll : a.length = b.length := by simp_all; omega
 refine ac ?_
 refine ac ?_
 refine Tr.block (Tr.loopw [(1, _), (2, _), (15, _), (16, _)] (kk4 rfl) (fun k : Nat => [(17, int ((k : Nat) : Int))]) (fun k : Nat => k ≤ (a).length ∧ (a.take k = b.take k)) (fun k : Nat => (a).length - k) 0 (⟨Nat.zero_le _, rfl⟩) ⟨ke rfl, trivial⟩ ?_)
 rintro k ⟨hle_k, hinv_k⟩
 refine ac ?_
 refine Tr.seq ?_
 refine Tr.cn rfl ?_ ?_ <;> intro h2 q2
 have hk_k : k < (a).length := lt_of_dec h2
 obtain ⟨x, hx_k⟩ := at_ hk_k
 obtain ⟨y, hy⟩ := at_ (l := b) (k := k) (by omega)
 refine ac ?_
 refine ao ?_
 refine tp rfl (ok_indexAddr rfl Tryz.underlying33 sz47 (vl rfl) (vl rfl) (by omega) (row_at hx_k)) (tp rfl (ok_loadA rfl agg47 sz47 (vl rfl) rfl rfl) ?_)
 refine TO.alloc rfl rfl (by decide) rfl z47 zo47 (fun b1 => ?_)
 refine tm rfl ?_
 refine sf 0 8 ⟨rfl, rfl, rfl⟩ rfl rfl rfl rfl ?_
 refine ao ?_
 refine ao ?_
 refine tp rfl (ok_indexAddr rfl Tryz.underlying33 sz47 (vl rfl) (vl rfl) (by omega) (row_at hy)) (tp rfl (ok_loadA rfl agg47 sz47 (vl rfl) rfl rfl) ?_)
 refine TO.alloc rfl rfl (by decide) rfl z47 zo47 (fun b2 => ?_)
 refine sf 0 9 ⟨rfl, rfl, rfl⟩ rfl rfl rfl rfl ?_
 refine ao ?_
 refine wk7 1 2 8 9 15 16 17 rfl ?_
 refine ac ?_
 refine co rfl (ok_callc (x, y) rfl (vl rfl) ⟨ke rfl, ke rfl, trivial⟩) ?_
 refine ac ?_
 refine Tr.cn rfl ?_ ?_ <;> intro h3 q3
 refine ac ?_
 refine ac ?_
 · refine bool_eq ?_; symm; rw [decide_eq_false_iff_not]; refine sameN hx_k hy ?_; rintro rfl; simp_all
 refine ac ?_
 refine ac ?_
 exact Fin.fam_same (k + 1) ⟨⟨hk_k, sameY hx_k hy hinv_k (by simp_all)⟩, by omega⟩ ⟨⟨_, rfl, int_succ k⟩, ke rfl, ke rfl, ke rfl, ke rfl, trivial⟩
 have he_k : k = (a).length := by have := ge_of_dec h2; omega
 subst he_k
 refine ac ?_
 refine ac ?_
 refine ac ?_
 · refine bool_eq ?_; symm; rw [decide_eq_true_eq]; exact sameA hll hinv_k
theorem w_ESame {a b : Ept}  : Fun Tryz.prog 62 [agg (rowEp a), agg (rowEp b)] (bool (decide (a = b))) := by
 refine fo Tryz.func62 rfl ⟨rfl, rfl⟩ fun M0 w0 => ?_
 refine ac ?_
 refine ac ?_
 refine wk3 2 3 5 rfl (Tr.cutk [2, 3, 5] [(6, bool (decide (a.suites = b.suites ∧ a.anchors = b.anchors ∧ a.hashes = b.hashes)))] (True) ?_ (fun h1 => ?_))
 refine ac ?_
 refine co rfl (kc2 (w_SEqI) rfl rfl rfl) (cm rfl ?_)
 refine Ch.cs 12 rfl ?_ ?_ <;> intro h2 q2
 refine ac ?_
 refine cy h2 rfl (kc2 (w_SEqI) rfl rfl rfl) ?_
 refine ac ?_
 refine Ch.cs 19 rfl ?_ ?_ <;> intro h3 q3
 refine ac ?_
 refine cy h3 rfl (kc2 (w_SEqI) rfl rfl rfl) ?_
 refine ac ?_
 exact Fin.fam_same () (by simp_all) ⟨⟨_, rfl, bool_eq (by simp_all)⟩, ke rfl, ke rfl, ke rfl, trivial⟩
 refine ac ?_
 exact Fin.fam_same () (by simp_all) ⟨⟨_, rfl, bool_eq (by simp_all)⟩, ke rfl, ke rfl, ke rfl, trivial⟩
 refine ac ?_
 exact Fin.fam_same () (by simp_all) ⟨⟨_, rfl, bool_eq (by simp_all)⟩, ke rfl, ke rfl, ke rfl, trivial⟩
 refine ac ?_
 refine Ch.cs 31 rfl ?_ ?_ <;> intro h4 q4
 refine ac ?_
 refine Ch.cs 38 rfl ?_ ?_ <;> intro h5 q5
 refine ac ?_
 refine Ch.cs 45 rfl ?_ ?_ <;> intro h6 q6
 refine ac ?_
 refine Ch.cs 52 rfl ?_ ?_ <;> intro h7 q7
 refine ac ?_
 refine Ch.cs 59 rfl ?_ ?_ <;> intro h8 q8
 refine ac ?_
 refine Ch.cs 62 rfl ?_ ?_ <;> intro h9 q9
 refine ac ?_
 refine cy h9 rfl (ok_call rfl (w_EqFN) ⟨ke rfl, ke rfl, ⟨_, rfl, fn_le_clo (dom := fun p : Idn × Idn => [agg (rowId p.1), agg (rowId p.2)]) (res := fun p => bool (decide (p.1 = p.2))) e_ES1 (fun p => w_ES1 (a := p.1) (b := p.2))⟩, trivial⟩) ?_
 refine ac ?_
 refine wk1 4 rfl ?_
 refine ac ?_
 · refine bool_eq ?_; cases a; cases b; simp_all [Bool.beq_eq_decide_eq]
 refine ac ?_
 refine wk1 4 rfl ?_
 refine ac ?_
 · refine bool_eq ?_; cases a; cases b; simp_all [Bool.beq_eq_decide_eq]
 refine ac ?_
 refine wk1 4 rfl ?_
 refine ac ?_
 · refine bool_eq ?_; cases a; cases b; simp_all [Bool.beq_eq_decide_eq]
 refine ac ?_
 refine wk1 4 rfl ?_
 refine ac ?_
 · refine bool_eq ?_; cases a; cases b; simp_all [Bool.beq_eq_decide_eq]
 refine ac ?_
 refine wk1 4 rfl ?_
 refine ac ?_
 · refine bool_eq ?_; cases a; cases b; simp_all [Bool.beq_eq_decide_eq]
 refine ac ?_
 refine wk1 4 rfl ?_
 refine ac ?_
 · refine bool_eq ?_; cases a; cases b; simp_all [Bool.beq_eq_decide_eq]
 refine ac ?_
 refine wk1 4 rfl ?_
 refine ac ?_
 · refine bool_eq ?_; cases a; cases b; simp_all [Bool.beq_eq_decide_eq]
theorem e_ESame : Entry Tryz.prog 62 := ⟨_, Tryz.func62, rfl, rfl⟩
theorem w_EqFE {a b : List Ept}  : Fun Tryz.prog 63 [epts a, epts b, clo Tryz.prog (fun p : Ept × Ept => [agg (rowEp p.1), agg (rowEp p.2)]) (fun p => bool (decide (p.1 = p.2)))] (bool (decide (a = b))) := by
 refine fo Tryz.func63 rfl ⟨rfl, rfl⟩ fun M0 w0 => (Tr.lenm 0 rfl fun hlm_0 => (Tr.lenm 1 rfl fun hlm_1 => ?_))
 refine ac ?_
 refine ac ?_
 refine Tr.cn rfl ?_ ?_ <;> intro h1 q1
 have hne : ¬ a.length = b.length := by simp_all; omega
 refine ac ?_
 refine ac ?_
 · refine bool_eq ?_; symm; rw [decide_eq_false_iff_not]; rintro rfl; exact hne rfl
 have hll : a.length = b.length := by simp_all; omega
 refine ac ?_
 refine ac ?_
 refine Tr.block (Tr.loopw [(1, _), (2, _), (15, _), (16, _)] (kk4 rfl) (fun k : Nat => [(17, int ((k : Nat) : Int))]) (fun k : Nat => k ≤ (a).length ∧ (a.take k = b.take k)) (fun k : Nat => (a).length - k) 0 (⟨Nat.zero_le _, rfl⟩) ⟨ke rfl, trivial⟩ ?_)
 rintro k ⟨hle_k, hinv_k⟩
 refine ac ?_
 refine Tr.seq ?_
 refine Tr.cn rfl ?_ ?_ <;> intro h2 q2
 have hk_k : k < (a).length := lt_of_dec h2
 obtain ⟨x, hx_k⟩ := at_ hk_k
 obtain ⟨y, hy⟩ := at_ (l := b) (k := k) (by omega)
 refine ac ?_
 refine ao ?_
 refine tp rfl (ok_indexAddr rfl Tryz.underlying27 sz35 (vl rfl) (vl rfl) (by omega) (row_at hx_k)) (tp rfl (ok_loadA rfl agg35 sz35 (vl rfl) rfl rfl) ?_)
 refine TO.alloc rfl rfl (by decide) rfl z35 zo35 (fun b1 => ?_)
 refine tm rfl ?_
 refine sf 0 8 ⟨rfl, rfl, rfl⟩ rfl rfl rfl rfl ?_
 refine ao ?_
 refine ao ?_
 refine tp rfl (ok_indexAddr rfl Tryz.underlying27 sz35 (vl rfl) (vl rfl) (by omega) (row_at hy)) (tp rfl (ok_loadA rfl agg35 sz35 (vl rfl) rfl rfl) ?_)
 refine TO.alloc rfl rfl (by decide) rfl z35 zo35 (fun b2 => ?_)
 refine sf 0 9 ⟨rfl, rfl, rfl⟩ rfl rfl rfl rfl ?_
 refine ao ?_
 refine wk7 1 2 8 9 15 16 17 rfl ?_
 refine ac ?_
 refine co rfl (ok_callc (x, y) rfl (vl rfl) ⟨ke rfl, ke rfl, trivial⟩) ?_
 refine ac ?_
 refine Tr.cn rfl ?_ ?_ <;> intro h3 q3
 refine ac ?_
 refine ac ?_
 · refine bool_eq ?_; symm; rw [decide_eq_false_iff_not]; refine sameN hx_k hy ?_; rintro rfl; simp_all
 refine ac ?_
 refine ac ?_
 exact Fin.fam_same (k + 1) ⟨⟨hk_k, sameY hx_k hy hinv_k (by simp_all)⟩, by omega⟩ ⟨⟨_, rfl, int_succ k⟩, ke rfl, ke rfl, ke rfl, ke rfl, trivial⟩
 have he_k : k = (a).length := by have := ge_of_dec h2; omega
 subst he_k
 refine ac ?_
 refine ac ?_
 refine ac ?_
 · refine bool_eq ?_; symm; rw [decide_eq_true_eq]; exact sameA hll hinv_k
end Go.Proofs.YtflodcidhlmaaaaGreat
namespace Go.Proofs.YtflodcidhlmaaaaGreat
open Go Go.RowKit Cp

/-- A host. -/
structure Hst where
  ep : Ept
  bef : List Ept
deriving DecidableEq
abbrev rowH (h : Hst) : List Pr := [str h.ep.name, int h.ep.least, int h.ep.most, ints h.ep.suites, bool h.ep.own, idns h.ep.ids, ints h.ep.anchors, ints h.ep.hashes, bool h.ep.fall, epts h.bef]
structure Hst.small (h : Hst) : Prop where
  ep : h.ep.small
  len : h.bef.length ≤ 1000000
  bef : ∀ e ∈ h.bef, e.small
def zeroH : Hst := ⟨zeroEp, []⟩
def backH (h : Hst) : Hst × Int := match h.bef[h.bef.length - 1]? with | some x => (⟨x, h.bef.take (h.bef.length - 1)⟩, 0) | none => (h, 4)
theorem backH_at {h : Hst} {x : Ept} (hx : h.bef[h.bef.length - 1]? = some x) : backH h = (⟨x, h.bef.take (h.bef.length - 1)⟩, 0) := by unfold backH; rw [hx]
def lastN {β : Type} (n : Nat) (l : List β) : List β := l.drop (l.length - n)
def tryH (h : Hst) (to : Ept) (k : Int) : Hst × Bool × Int :=
  if eptB to = false then (h, false, 19) else if to.name ≠ h.ep.name then (h, false, 14) else if ¬ (0 ≤ k ∧ k ≤ 3) then (h, false, 2)
  else (if k = 0 ∨ k = 2 then ⟨to, lastN 24 (h.bef ++ [h.ep])⟩ else h, decide (k = 0 ∨ k = 3), 0)

theorem andIs_mono {v : Value} {p q : Pr} (h : Pr.le p q) : Pr.le (andIs v p) (andIs v q) := fun _ _ _ x => ⟨x.1, h _ _ _ x.2⟩
theorem snocM {β γ : Type} {f : β → γ} {l : List β} {k : Nat} {x : β} (h : l[k]? = some x) : (l.take k).map f ++ [f x] = (l.take (k + 1)).map f := by rw [List.take_add_one, h, List.map_append]; rfl
theorem w_HCopy {h : Hst} (hs : h.small) : Fun Tryz.prog 53 [agg (rowH h)] (agg (rowH h)) := by
 refine fo Tryz.func53 rfl ⟨rfl, rfl⟩ fun M0 w0 => ?_
 have hl := hs.len
 refine Tr.seq (Tr.regT (tp rfl (ok_box rfl (VL.le (vl rfl) (agg_cellsP _))) ?_))
 refine TO.alloc rfl rfl (by decide) rfl z37 zo37 (fun b1 => ?_)
 refine ao ?_
 refine ao ?_
 refine tp rfl (kc1 (w_CopyEz hs.ep) rfl rfl) (tp rfl (ok_build (rows := [(0, _)]) rfl bl37 zo37 ⟨⟨rfl, (VL.le (vl rfl) (agg_cellsP _))⟩, trivial⟩ rfl) ?_)
 refine TO.alloc rfl rfl (by decide) rfl z37 zo37 (fun b2 => ?_)
 refine TO.store_all 0 rfl rfl rfl (vl rfl) (VL.le (vl rfl) (agg_cellsP _)) rfl sz37 rfl rfl ?_
 refine ao ?_
 refine ac ?_
 refine Tr.block (Tr.reC 0 [str h.ep.name, int h.ep.least, int h.ep.most, ints h.ep.suites, bool h.ep.own, idns h.ep.ids, ints h.ep.anchors, ints h.ep.hashes, bool h.ep.fall, andIs (.slice none 0 0) (slice 9 ((h.bef.take 0).map rowEp))] rfl ⟨Pr.le_refl _, Pr.le_refl _, Pr.le_refl _, Pr.le_refl _, Pr.le_refl _, Pr.le_refl _, Pr.le_refl _, Pr.le_refl _, Pr.le_refl _, own_nil rfl, trivial⟩ (Tr.addnil 35 9 (Tr.loopV1 [(2, _), (3, _), (11, _), (12, _)] ⟨ke rfl, ke rfl, ke rfl, ke rfl, trivial⟩ (fun k v => [(13, int ((k : Nat) : Int))]) (fun k v => Hp M0 w0 noS ([appRes 35 9 v, cellsRes true b2 37 [str h.ep.name, int h.ep.least, int h.ep.most, ints h.ep.suites, bool h.ep.own, idns h.ep.ids, ints h.ep.anchors, ints h.ep.hashes, bool h.ep.fall, andIs v (slice 9 ((h.bef.take k).map rowEp))], cellsRes true b1 37 (([.string (ByteArray.mk #[]), .int .i64 0, .int .i64 0, .slice none 0 0, .bool false, .slice none 0 0, .slice none 0 0, .slice none 0 0, .bool false, .slice none 0 0] : List Value).map is)])) (fun k : Nat => k ≤ (h.bef).length) (fun k : Nat => (h.bef).length - k) 0 (.slice none 0 0) (Nat.zero_le _) ⟨ke rfl, trivial⟩ (fun _ _ h => h) ?_)))
 rintro k v hle_k
 refine ac ?_
 refine Tr.seq ?_
 refine Tr.cn rfl ?_ ?_ <;> intro h1 q1
 have hk_k : k < (h.bef).length := lt_of_dec h1
 obtain ⟨x, hx_k⟩ := at_ hk_k
 have hxs := hs.bef x (List.mem_of_getElem? hx_k)
 refine ac ?_
 refine Tr.seq (Tr.block (Tr.seq (Tr.regT (tp rfl (ok_indexAddr rfl Tryz.underlying27 sz35 (vl rfl) (vl rfl) (by omega) (by exact row_at (by assumption))) ?_))))
 refine tp rfl (ok_loadA rfl agg35 sz35 (vl rfl) rfl rfl) ?_
 refine TO.alloc rfl rfl (by decide) rfl z35 zo35 (fun b3 => ?_)
 refine sf 0 5 ⟨rfl, rfl, rfl⟩ rfl rfl rfl rfl ?_
 refine ao ?_
 refine Tr.pad (Tr.rx ?_)
 refine ax ?_
 refine xo rfl (fun _ => kc1 (w_CopyEz hxs) rfl rfl) (xo rfl (fun _ => ok_buildSlice (xs := [.tmp 20]) (rows := [_]) rfl rfl Tryz.underlying27 sz35 z35 rfl (by decide) ⟨⟨(by exact rfl), (VL.le (vl rfl) (agg_cellsP _))⟩, trivial⟩ (by decide)) ?_)
 refine Cx.ef 1 rfl rfl (by decide) (ef_append rfl rfl (by decide) rfl Tryz.underlying27 sz35 by35 z35 rfl (by decide) ⟨_, rfl, andIs_le _ _⟩ ⟨_, rfl, full_le _ _⟩ (by simp only [List.length_map, List.length_append, List.length_cons, List.length_nil, List.length_take]; unfold maxLen; omega) (by simp only [List.length_map, List.length_append, List.length_cons, List.length_nil, List.length_take]; omega) (appR_is (by exact List.Mem.head _) ⟨_, rfl, andIs_is _ _⟩)) ?_
 refine xo rfl (fun _ => okp_fieldAddr rfl fo37_1 (vl rfl)) (Cx.ef0 2 rfl rfl (ef_storeS rfl rfl rfl (vl rfl) rfl sz27 (by exact Nat.le_of_ble_eq_true rfl)) ?_)
 refine Cx.nil ⟨by kernel_rfl, ?_⟩
 refine FinX.open2 1 2 22 rfl rfl (by decide) rfl (fun v1 => ?_)
 refine FinX.done al4 ?_
 refine ac ?_
 refine Tr.drop 0 (wk5 2 3 11 12 13 rfl ?_)
 refine ac ?_
 refine Fin.reC 1 [str h.ep.name, int h.ep.least, int h.ep.most, ints h.ep.suites, bool h.ep.own, idns h.ep.ids, ints h.ep.anchors, ints h.ep.hashes, bool h.ep.fall, andIs v1 (slice 9 ((h.bef.take (k + 1)).map rowEp))] rfl ⟨Pr.le_refl _, Pr.le_refl _, Pr.le_refl _, Pr.le_refl _, Pr.le_refl _, Pr.le_refl _, Pr.le_refl _, Pr.le_refl _, Pr.le_refl _, own_le (snocM (f := rowEp) hx_k), trivial⟩ (Fin.famV1 (k + 1) v1 (⟨hk_k, by omega⟩) ⟨⟨_, rfl, int_succ k⟩, ke rfl, ke rfl, ke rfl, ke rfl, trivial⟩ (fun _ _ h => h))
 have he_k : k = (h.bef).length := by have := ge_of_dec h1; omega
 subst he_k
 refine ac ?_
 refine ao ?_
 refine TO.store_all 2 rfl rfl rfl (vl rfl) (VL.le (vl rfl) (agg_cellsP _)) rfl sz37 rfl rfl ?_
 refine ao ?_
 refine Tr.ret (Fin.retX1 rfl (RVal.cell 2 rfl rfl agg37 sz37 rfl (Pr.le_refl _)) ?_)
 · exact agg_le ⟨Pr.le_refl _, Pr.le_refl _, Pr.le_refl _, Pr.le_refl _, Pr.le_refl _, Pr.le_refl _, Pr.le_refl _, Pr.le_refl _, Pr.le_refl _, Pr.le_trans (andIs_le _ _) (Pr.le_of_eq (by rw [List.take_length])), trivial⟩
theorem w_HNew {e : Ept} (hf : e.fits) (hsm : e.small) : Fun Tryz.prog 14 [agg (rowEp e)] (tup [agg (rowH (if eptB e = true then ⟨e, []⟩ else zeroH)), int (if eptB e = true then 0 else 19)]) := by
 refine fo Tryz.func14 rfl ⟨rfl, rfl⟩ fun M0 w0 => (Tr.seq (Tr.regT (tp rfl (ok_box rfl (VL.le (vl rfl) (agg_cellsP _))) ?_)))
 refine TO.alloc rfl rfl (by decide) rfl z37 zo37 (fun b1 => ?_)
 refine ap ?_
 refine ac ?_
 refine co rfl (kc1 (w_ECheck hf) rfl rfl) ?_
 refine ac ?_
 refine Tr.cn rfl ?_ ?_ <;> intro h1 q1
 have hne : ¬ eptB e = true := by have := q1; cases h_ : eptB e <;> simp_all
 refine ap ?_
 refine Tr.ret (Fin.then_ret (Fin.retX2 rfl (RVal.cell 0 rfl rfl agg37 sz37 rfl (Pr.le_refl _)) (RVal.tmp rfl (Pr.le_refl _)) ?_))
 refine tup_le ⟨?_, ?_, trivial⟩
 · rw [if_neg hne]; exact agg_le ⟨Pr.le_refl _, Pr.le_refl _, Pr.le_refl _, nil_slice 1, Pr.le_refl _, nil_slice 4, nil_slice 1, nil_slice 1, Pr.le_refl _, nil_slice 9, trivial⟩
 · exact int_eq (by rw [if_neg hne])
 have hce : eptB e = true := by have := q1; cases h_ : eptB e <;> simp_all
 refine ac ?_
 refine ap ?_
 refine tp rfl (ok_call rfl (w_HCopy (h := ⟨e, []⟩) ⟨hsm, by show 0 ≤ _; omega, fun x hx => by cases hx⟩) ⟨⟨_, rfl, agg_le ⟨Pr.le_refl _, Pr.le_refl _, Pr.le_refl _, Pr.le_refl _, Pr.le_refl _, Pr.le_refl _, Pr.le_refl _, Pr.le_refl _, Pr.le_refl _, nil_slice 9, trivial⟩⟩, trivial⟩) ?_
 refine ap ?_
 refine Tr.ret (Fin.retX2 rfl (RVal.cell 0 rfl rfl agg37 sz37 rfl (Pr.le_refl _)) (RVal.tmp rfl (Pr.le_refl _)) ?_)
 refine tup_le ⟨?_, ?_, trivial⟩
 · rw [if_pos hce]; exact Pr.le_refl _
 · exact int_eq (by rw [if_pos hce])
theorem w_fValid {n : Int}  : Fun Tryz.prog 57 [int n] (bool (decide (0 ≤ n ∧ n ≤ 3))) := by
 refine fo Tryz.func57 rfl ⟨rfl, rfl⟩ fun M0 w0 => ?_
 refine ac ?_
 refine ac ?_
 refine Ch.cs 5 rfl ?_ ?_ <;> intro h1 q1
 refine ac ?_
 refine ac ?_
 · refine bool_eq ?_; rw [Bool.eq_iff_iff]; simp_all
 refine ac ?_
 refine ac ?_
 · refine bool_eq ?_; rw [Bool.eq_iff_iff]; simp_all; omega
theorem w_fDone {n : Int}  : Fun Tryz.prog 58 [int n] (bool (decide (n = 0 ∨ n = 2))) := by
 refine fo Tryz.func58 rfl ⟨rfl, rfl⟩ fun M0 w0 => ?_
 refine ac ?_
 refine ac ?_
 refine Ch.cs 5 rfl ?_ ?_ <;> intro h1 q1
 refine ac ?_
 refine ac ?_
 · refine bool_eq ?_; rw [Bool.eq_iff_iff]; simp_all
 refine ac ?_
 refine ac ?_
 · refine bool_eq ?_; rw [Bool.eq_iff_iff]; simp_all
theorem w_fSays {n : Int}  : Fun Tryz.prog 59 [int n] (bool (decide (n = 0 ∨ n = 3))) := by
 refine fo Tryz.func59 rfl ⟨rfl, rfl⟩ fun M0 w0 => ?_
 refine ac ?_
 refine ac ?_
 refine Ch.cs 5 rfl ?_ ?_ <;> intro h1 q1
 refine ac ?_
 refine ac ?_
 · refine bool_eq ?_; rw [Bool.eq_iff_iff]; simp_all
 refine ac ?_
 refine ac ?_
 · refine bool_eq ?_; rw [Bool.eq_iff_iff]; simp_all
theorem w_HSame {a b : Hst}  : Fun Tryz.prog 20 [agg (rowH a), agg (rowH b)] (bool (decide (a = b))) := by
 refine fo Tryz.func20 rfl ⟨rfl, rfl⟩ fun M0 w0 => ?_
 refine ac ?_
 refine ac ?_
 refine co rfl (kc2 (w_ESame (a := a.ep) (b := b.ep)) rfl rfl rfl) ?_
 refine cm rfl ?_
 refine Ch.cs 10 rfl ?_ ?_ <;> intro h1 q1
 refine ac ?_
 refine cy h1 rfl (ok_call rfl (w_EqFE (a := a.bef) (b := b.bef)) ⟨ke rfl, ke rfl, ⟨_, rfl, fn_le_clo (dom := fun p : Ept × Ept => [agg (rowEp p.1), agg (rowEp p.2)]) (res := fun p => bool (decide (p.1 = p.2))) e_ESame (fun p => w_ESame (a := p.1) (b := p.2))⟩, trivial⟩) ?_
 refine ac ?_
 refine wk1 4 rfl ?_
 refine ac ?_
 · refine bool_eq ?_; cases a; cases b; simp_all
 refine ac ?_
 refine wk1 4 rfl ?_
 refine ac ?_
 · refine bool_eq ?_; cases a; cases b; simp_all
theorem w_HBack {h : Hst} (hs : h.small) : Fun Tryz.prog 19 [agg (rowH h)] (tup [agg (rowH (backH h).1), int (backH h).2]) := by
 refine fo Tryz.func19 rfl ⟨rfl, rfl⟩ fun M0 w0 => (Tr.seq (Tr.regT (tp rfl (ok_box rfl (VL.le (vl rfl) (agg_cellsP _))) ?_)))
 refine TO.alloc rfl rfl (by decide) rfl z37 zo37 (fun b1 => ?_)
 refine ap ?_
 refine ap ?_
 refine tp rfl (kc1 (w_HCopy hs) rfl rfl) ?_
 refine TO.alloc rfl rfl (by decide) rfl z37 zo37 (fun b2 => ?_)
 refine ap ?_
 refine ac ?_
 refine ac ?_
 refine wk4 2 4 5 12 rfl ?_
 refine Tr.cn rfl ?_ ?_ <;> intro h1 q1
 have hz : h.bef = [] := List.eq_nil_of_length_eq_zero (by have := q1; omega)
 have hb : backH h = (h, 4) := by unfold backH; rw [hz]; rfl
 refine ap ?_
 refine Tr.drop 0 (Tr.ret (Fin.then_ret (Fin.retX2 rfl (RVal.cell 0 rfl rfl agg37 sz37 rfl (Pr.le_refl _)) (RVal.tmp rfl (Pr.le_refl _)) ?_)))
 refine tup_le ⟨?_, ?_, trivial⟩
 · rw [hb]; exact Pr.le_refl _
 · exact int_eq (by rw [hb])
 obtain ⟨x, hx⟩ := at_ (l := h.bef) (k := h.bef.length - 1) (by have := q1; omega)
 have hb := backH_at hx
 have hlt := lt_of_at hx
 have hl := hs.len
 refine ac ?_
 refine Tr.seq (Tr.rx ?_)
 refine ay ?_
 refine xo rfl (fun _ => ok_indexAddr rfl Tryz.underlying27 sz35 (vl rfl) (vl rfl) (by omega) (row_atI (f := rowEp) (by rw [show (((h.bef.length : Nat) : Int) - 1).toNat = h.bef.length - 1 by omega]; exact hx))) ?_
 refine ay ?_
 refine xo rfl (fun _ => ok_sliceTo rfl Tryz.underlying27 sz35 (vl rfl) (vl rfl) (by omega) (by simp; omega)) ?_
 refine ay ?_
 refine Cx.nil ⟨by kernel_rfl, ?_⟩
 refine FinX.done al2 (Fin.go (wk2 2 4 rfl ?_))
 refine ap ?_
 refine Tr.drop 0 (Tr.ret (Fin.retX2 rfl (RVal.cell 0 rfl rfl agg37 sz37 rfl (Pr.le_refl _)) (RVal.tmp rfl (Pr.le_refl _)) ?_))
 refine tup_le ⟨?_, ?_, trivial⟩
 · rw [hb]; exact agg_le ⟨Pr.le_refl _, Pr.le_refl _, Pr.le_refl _, Pr.le_refl _, Pr.le_refl _, Pr.le_refl _, Pr.le_refl _, Pr.le_refl _, Pr.le_refl _, Pr.le_of_eq (by show _ = slice 9 ((h.bef.take (h.bef.length - 1)).map rowEp); rw [List.map_take, show (((h.bef.length : Nat) : Int) - 1).toNat = h.bef.length - 1 by omega]), trivial⟩
 · exact int_eq (by rw [hb])
theorem w_HCopyV {h : Hst} (hs : h.small) : FunV Tryz.prog 53 [agg (rowH h)] (fun x => agg [str h.ep.name, int h.ep.least, int h.ep.most, ints h.ep.suites, bool h.ep.own, idns h.ep.ids, ints h.ep.anchors, ints h.ep.hashes, bool h.ep.fall, andIs x (slice 9 (h.bef.map rowEp))]) (fun x => [appRes 35 9 x]) := by
 refine FunV.of Tryz.func53 rfl rfl (by exact Nat.le_of_ble_eq_true rfl) fun M0 w0 S rs M1 w1 => ?_
 have hl := hs.len
 refine Tr.seq (Tr.regT (tp rfl (ok_box rfl (VL.le (vl rfl) (agg_cellsP _))) ?_))
 refine TO.alloc rfl rfl (by decide) rfl z37 zo37 (fun b1 => ?_)
 refine ao ?_
 refine ao ?_
 refine tp rfl (kc1 (w_CopyEz hs.ep) rfl rfl) (tp rfl (ok_build (rows := [(0, _)]) rfl bl37 zo37 ⟨⟨rfl, (VL.le (vl rfl) (agg_cellsP _))⟩, trivial⟩ rfl) ?_)
 refine TO.alloc rfl rfl (by decide) rfl z37 zo37 (fun b2 => ?_)
 refine TO.store_all 0 rfl rfl rfl (vl rfl) (VL.le (vl rfl) (agg_cellsP _)) rfl sz37 rfl rfl ?_
 refine ao ?_
 refine ac ?_
 refine Tr.block (Tr.reC 0 [str h.ep.name, int h.ep.least, int h.ep.most, ints h.ep.suites, bool h.ep.own, idns h.ep.ids, ints h.ep.anchors, ints h.ep.hashes, bool h.ep.fall, andIs (.slice none 0 0) (slice 9 ((h.bef.take 0).map rowEp))] rfl ⟨Pr.le_refl _, Pr.le_refl _, Pr.le_refl _, Pr.le_refl _, Pr.le_refl _, Pr.le_refl _, Pr.le_refl _, Pr.le_refl _, Pr.le_refl _, own_nil rfl, trivial⟩ (Tr.addnil 35 9 (Tr.loopV1 [(2, _), (3, _), (11, _), (12, _)] ⟨ke rfl, ke rfl, ke rfl, ke rfl, trivial⟩ (fun k v => [(13, int ((k : Nat) : Int))]) (fun k v => Hp M0 w0 S (appRes 35 9 v :: cellsRes true b2 37 [str h.ep.name, int h.ep.least, int h.ep.most, ints h.ep.suites, bool h.ep.own, idns h.ep.ids, ints h.ep.anchors, ints h.ep.hashes, bool h.ep.fall, andIs v (slice 9 ((h.bef.take k).map rowEp))] :: cellsRes true b1 37 (([.string (ByteArray.mk #[]), .int .i64 0, .int .i64 0, .slice none 0 0, .bool false, .slice none 0 0, .slice none 0 0, .slice none 0 0, .bool false, .slice none 0 0] : List Value).map is) :: extRes M1 w1 :: rs)) (fun k : Nat => k ≤ (h.bef).length) (fun k : Nat => (h.bef).length - k) 0 (.slice none 0 0) (Nat.zero_le _) ⟨ke rfl, trivial⟩ (fun _ _ h => h) ?_)))
 rintro k v hle_k
 refine ac ?_
 refine Tr.seq ?_
 refine Tr.cn rfl ?_ ?_ <;> intro h1 q1
 have hk_k : k < (h.bef).length := lt_of_dec h1
 obtain ⟨x, hx_k⟩ := at_ hk_k
 have hxs := hs.bef x (List.mem_of_getElem? hx_k)
 refine ac ?_
 refine Tr.seq (Tr.block (Tr.seq (Tr.regT (tp rfl (ok_indexAddr rfl Tryz.underlying27 sz35 (vl rfl) (vl rfl) (by omega) (by exact row_at (by assumption))) ?_))))
 refine tp rfl (ok_loadA rfl agg35 sz35 (vl rfl) rfl rfl) ?_
 refine TO.alloc rfl rfl (by decide) rfl z35 zo35 (fun b3 => ?_)
 refine sf 0 5 ⟨rfl, rfl, rfl⟩ rfl rfl rfl rfl ?_
 refine ao ?_
 refine Tr.pad (Tr.rx ?_)
 refine ax ?_
 refine xo rfl (fun _ => kc1 (w_CopyEz hxs) rfl rfl) (xo rfl (fun _ => ok_buildSlice (xs := [.tmp 20]) (rows := [_]) rfl rfl Tryz.underlying27 sz35 z35 rfl (by decide) ⟨⟨(by exact rfl), (VL.le (vl rfl) (agg_cellsP _))⟩, trivial⟩ (by decide)) ?_)
 refine Cx.ef 1 rfl rfl (by decide) (ef_append rfl rfl (by decide) rfl Tryz.underlying27 sz35 by35 z35 rfl (by decide) ⟨_, rfl, andIs_le _ _⟩ ⟨_, rfl, full_le _ _⟩ (by simp only [List.length_map, List.length_append, List.length_cons, List.length_nil, List.length_take]; unfold maxLen; omega) (by simp only [List.length_map, List.length_append, List.length_cons, List.length_nil, List.length_take]; omega) (appR_is (by exact List.Mem.head _) ⟨_, rfl, andIs_is _ _⟩)) ?_
 refine xo rfl (fun _ => okp_fieldAddr rfl fo37_1 (vl rfl)) (Cx.ef0 2 rfl rfl (ef_storeS rfl rfl rfl (vl rfl) rfl sz27 (by exact Nat.le_of_ble_eq_true rfl)) ?_)
 refine Cx.nil ⟨by kernel_rfl, ?_⟩
 refine FinX.open2 1 2 22 rfl rfl (by decide) rfl (fun v1 => ?_)
 refine FinX.done al5 ?_
 refine ac ?_
 refine Tr.drop 0 (wk5 2 3 11 12 13 rfl ?_)
 refine ac ?_
 refine Fin.reC 1 [str h.ep.name, int h.ep.least, int h.ep.most, ints h.ep.suites, bool h.ep.own, idns h.ep.ids, ints h.ep.anchors, ints h.ep.hashes, bool h.ep.fall, andIs v1 (slice 9 ((h.bef.take (k + 1)).map rowEp))] rfl ⟨Pr.le_refl _, Pr.le_refl _, Pr.le_refl _, Pr.le_refl _, Pr.le_refl _, Pr.le_refl _, Pr.le_refl _, Pr.le_refl _, Pr.le_refl _, own_le (snocM (f := rowEp) hx_k), trivial⟩ (Fin.famV1 (k + 1) v1 (⟨hk_k, by omega⟩) ⟨⟨_, rfl, int_succ k⟩, ke rfl, ke rfl, ke rfl, ke rfl, trivial⟩ (fun _ _ h => h))
 have he_k : k = (h.bef).length := by have := ge_of_dec h1; omega
 subst he_k
 refine ac ?_
 refine ao ?_
 refine TO.store_all 2 rfl rfl rfl (vl rfl) (VL.le (vl rfl) (agg_cellsP _)) rfl sz37 rfl rfl ?_
 refine ao ?_
 refine Tr.ret (Fin.drop 1 (Fin.swap01 (Fin.retV v [_] rfl (RVal.cell 0 rfl rfl agg37 sz37 rfl (Pr.le_refl _)) ?_ (List.Perm.refl _))))
 · exact agg_le ⟨Pr.le_refl _, Pr.le_refl _, Pr.le_refl _, Pr.le_refl _, Pr.le_refl _, Pr.le_refl _, Pr.le_refl _, Pr.le_refl _, Pr.le_refl _, andIs_mono (Pr.le_of_eq (by rw [List.take_length])), trivial⟩
theorem w_HTry {h : Hst} {to_ : Ept} {k : Int} (hs : h.small) (hsl : h.bef.length ≤ 900000) (hf : to_.fits) (hsm : to_.small) : Fun Tryz.prog 17 [agg (rowH h), agg (rowEp to_), int k] (tup [agg (rowH (tryH h to_ k).1), bool (tryH h to_ k).2.1, int (tryH h to_ k).2.2]) := by
 refine fo Tryz.func17 rfl ⟨rfl, rfl⟩ fun M0 w0 => (Tr.seq (Tr.regT (tp rfl (ok_box rfl (VL.le (vl rfl) (agg_cellsP _))) (tp rfl (ok_box rfl (VL.le (vl rfl) (agg_cellsP _))) ?_))))
 refine TO.alloc rfl rfl (by decide) rfl z37 zo37 (fun b1 => ?_)
 refine ap ?_
 refine ap ?_
 refine TO.callV rfl rfl (by decide) rfl (w_HCopyV hs) ⟨ke rfl, trivial⟩ (fun v1 => ?_)
 refine tm rfl ?_
 refine TO.alloc rfl rfl (by decide) rfl z37 zo37 (fun b2 => ?_)
 refine ap ?_
 refine ac ?_
 refine co rfl (kc1 (w_ECheck hf) rfl rfl) ?_
 refine ac ?_
 refine wk6 3 4 6 9 10 16 rfl ?_
 refine Tr.cn rfl ?_ ?_ <;> intro h1 q1
 have hb : tryH h to_ k = (h, false, 19) := if_pos (by have := q1; cases h_ : eptB to_ <;> simp_all)
 refine ap ?_
 refine Tr.drop 0 (Tr.ret (Fin.block_ret (Fin.then_ret (Fin.retX3 rfl (RVal.cell 1 rfl rfl agg37 sz37 rfl (Pr.le_refl _)) (RVal.tmp rfl (Pr.le_refl _)) (RVal.tmp rfl (Pr.le_refl _)) ?_))))
 refine tup_le ⟨?_, ?_, ?_, trivial⟩
 · rw [hb]; exact agg_le ⟨Pr.le_refl _, Pr.le_refl _, Pr.le_refl _, Pr.le_refl _, Pr.le_refl _, Pr.le_refl _, Pr.le_refl _, Pr.le_refl _, Pr.le_refl _, andIs_le _ _, trivial⟩
 · exact bool_eq (by rw [hb])
 · exact int_eq (by rw [hb])
 have hce : eptB to_ = true := by have := q1; cases h_ : eptB to_ <;> simp_all
 refine ac ?_
 refine Tr.cn rfl ?_ ?_ <;> intro h2 q2
 have hb : tryH h to_ k = (h, false, 14) := by unfold tryH; rw [if_neg (by rw [hce]; decide), if_pos q2]
 refine ap ?_
 refine Tr.drop 0 (wk3 6 7 8 rfl (Tr.ret (Fin.block_ret (Fin.then_ret (Fin.retX3 rfl (RVal.cell 1 rfl rfl agg37 sz37 rfl (Pr.le_refl _)) (RVal.tmp rfl (Pr.le_refl _)) (RVal.tmp rfl (Pr.le_refl _)) ?_)))))
 refine tup_le ⟨?_, ?_, ?_, trivial⟩
 · rw [hb]; exact agg_le ⟨Pr.le_refl _, Pr.le_refl _, Pr.le_refl _, Pr.le_refl _, Pr.le_refl _, Pr.le_refl _, Pr.le_refl _, Pr.le_refl _, Pr.le_refl _, andIs_le _ _, trivial⟩
 · exact bool_eq (by rw [hb])
 · exact int_eq (by rw [hb])
 refine ac ?_
 refine co rfl (kc1 (w_fValid) rfl rfl) ?_
 refine ac ?_
 refine wk5 4 6 9 10 29 rfl ?_
 refine Tr.cn rfl ?_ ?_ <;> intro h3 q3
 have hb : tryH h to_ k = (h, false, 2) := by unfold tryH; rw [if_neg (by rw [hce]; decide), if_neg (fun hh => hh q2), if_pos (by have := q3; simpa using this)]
 refine ap ?_
 refine Tr.drop 0 (Tr.ret (Fin.block_ret (Fin.then_ret (Fin.retX3 rfl (RVal.cell 1 rfl rfl agg37 sz37 rfl (Pr.le_refl _)) (RVal.tmp rfl (Pr.le_refl _)) (RVal.tmp rfl (Pr.le_refl _)) ?_))))
 refine tup_le ⟨?_, ?_, ?_, trivial⟩
 · rw [hb]; exact agg_le ⟨Pr.le_refl _, Pr.le_refl _, Pr.le_refl _, Pr.le_refl _, Pr.le_refl _, Pr.le_refl _, Pr.le_refl _, Pr.le_refl _, Pr.le_refl _, andIs_le _ _, trivial⟩
 · exact bool_eq (by rw [hb])
 · exact int_eq (by rw [hb])
 refine ac ?_
 refine ac ?_
 refine ac ?_
 refine co rfl (ok_callf rfl (vl rfl) (show Fun _ _ ([int k] ++ []) _ from w_fDone) ⟨ke rfl, trivial⟩) ?_
 refine ac ?_
 refine Tr.cn rfl ?_ ?_ <;> intro h4 q4
 have hb : tryH h to_ k = (⟨to_, lastN 24 (h.bef ++ [h.ep])⟩, decide (k = 0 ∨ k = 3), 0) := by unfold tryH; rw [if_neg (by rw [hce]; decide), if_neg (fun hh => hh q2), if_neg (by have := q3; simpa using this), if_pos (by have := q4; simpa using this)]
 refine ap ?_
 refine TO.efs 1 rfl rfl (by decide) (ef_append rfl rfl (by decide) rfl Tryz.underlying27 sz35 by35 z35 rfl (by decide) ⟨_, rfl, andIs_le _ _⟩ ⟨_, rfl, full_le _ _⟩ (by simp only [List.length_map, List.length_append, List.length_cons, List.length_nil, List.length_take]; unfold maxLen; omega) (by simp only [List.length_map, List.length_append, List.length_cons, List.length_nil, List.length_take]; omega) (appR_is (by exact List.Mem.head _) ⟨_, rfl, andIs_is _ _⟩)) (fun v2 => ?_)
 refine ap ?_
 refine wk5 4 6 9 10 12 rfl (Tr.seq ?_)
 have hll : (h.bef ++ [h.ep]).length = h.bef.length + 1 := by simp
 refine Tr.reC 0 [str h.ep.name, int h.ep.least, int h.ep.most, ints h.ep.suites, bool h.ep.own, idns h.ep.ids, ints h.ep.anchors, ints h.ep.hashes, bool h.ep.fall, andIs v2 (slice 9 ((h.bef ++ [h.ep]).map rowEp))] rfl ⟨Pr.le_refl _, Pr.le_refl _, Pr.le_refl _, Pr.le_refl _, Pr.le_refl _, Pr.le_refl _, Pr.le_refl _, Pr.le_refl _, Pr.le_refl _, andIs_mono (Pr.le_of_eq (by rw [List.map_append]; rfl)), trivial⟩ ?_
 refine ap ?_
 refine tp rfl (ok_lenm rfl Tryz.underlying27 ⟨_, rfl, andIs_le _ _⟩) ?_
 refine tp rfl (ok_sub rfl (vl rfl) (vl rfl) ?hin) ?_; case hin => unfold InI; omega
 refine tp rfl (ok_max rfl (vl rfl) (vl rfl)) ?_
 refine tp rfl (ok_sliceFrom rfl Tryz.underlying27 sz35 ⟨_, rfl, andIs_le _ _⟩ (vl rfl) (by omega) (by simp; omega)) ?_
 refine ap ?_
 refine Tr.drop 1 (wk5 4 6 9 10 12 rfl ?_)
 refine ap ?_
 refine tp rfl (ok_call rfl (w_HCopy (h := ⟨to_, []⟩) ⟨hsm, by show 0 ≤ _; omega, fun x hx => by cases hx⟩) ⟨⟨_, rfl, agg_le ⟨Pr.le_refl _, Pr.le_refl _, Pr.le_refl _, Pr.le_refl _, Pr.le_refl _, Pr.le_refl _, Pr.le_refl _, Pr.le_refl _, Pr.le_refl _, nil_slice 9, trivial⟩⟩, trivial⟩) ?_
 refine tp rfl (ok_fieldG (k := 0) rfl (by kernel_rfl) agg35 sz35 (vl rfl) rfl) ?_
 refine ap ?_
 refine Tr.seq (Tr.rx ?_)
 refine ay ?_
 refine xo rfl (fun _ => ok_callf rfl (vl rfl) (show Fun _ _ ([int k] ++ []) _ from w_fSays) ⟨ke rfl, trivial⟩) ?_
 refine ay ?_
 refine Cx.nil ⟨by kernel_rfl, ?_⟩
 refine FinX.done al2 (Fin.go (Tr.drop 0 (wk3 6 7 8 rfl (Tr.ret (Fin.retX3 rfl (RVal.cell 0 rfl rfl agg37 sz37 rfl (Pr.le_refl _)) (RVal.tmp rfl (Pr.le_refl _)) (RVal.tmp rfl (Pr.le_refl _)) ?_)))))
 refine tup_le ⟨?_, ?_, ?_, trivial⟩
 · rw [hb]; exact agg_le ⟨Pr.le_refl _, Pr.le_refl _, Pr.le_refl _, Pr.le_refl _, Pr.le_refl _, Pr.le_refl _, Pr.le_refl _, Pr.le_refl _, Pr.le_refl _, Pr.le_of_eq (by show _ = slice 9 ((lastN 24 (h.bef ++ [h.ep])).map rowEp); unfold lastN; rw [List.map_drop]; congr 2; omega), trivial⟩
 · exact bool_eq (by rw [hb])
 · exact int_eq (by rw [hb])
 have hb : tryH h to_ k = (h, decide (k = 0 ∨ k = 3), 0) := by unfold tryH; rw [if_neg (by rw [hce]; decide), if_neg (fun hh => hh q2), if_neg (by have := q3; simpa using this), if_neg (by have := q4; simpa using this)]
 refine ac ?_
 refine Tr.seq (Tr.rx ?_)
 refine ay ?_
 refine xo rfl (fun _ => ok_callf rfl (vl rfl) (show Fun _ _ ([int k] ++ []) _ from w_fSays) ⟨ke rfl, trivial⟩) ?_
 refine ay ?_
 refine Cx.nil ⟨by kernel_rfl, ?_⟩
 refine FinX.done al3 (Fin.go (Tr.drop 0 (wk3 6 7 8 rfl (Tr.ret (Fin.retX3 rfl (RVal.cell 1 rfl rfl agg37 sz37 rfl (Pr.le_refl _)) (RVal.tmp rfl (Pr.le_refl _)) (RVal.tmp rfl (Pr.le_refl _)) ?_)))))
 refine tup_le ⟨?_, ?_, ?_, trivial⟩
 · rw [hb]; exact agg_le ⟨Pr.le_refl _, Pr.le_refl _, Pr.le_refl _, Pr.le_refl _, Pr.le_refl _, Pr.le_refl _, Pr.le_refl _, Pr.le_refl _, Pr.le_refl _, andIs_le _ _, trivial⟩
 · exact bool_eq (by rw [hb])
 · exact int_eq (by rw [hb])
end Go.Proofs.YtflodcidhlmaaaaGreat
namespace Go.Proofs.YtflodcidhlmaaaaGreat
open Go Go.RowKit Cp

theorem hs0 {e : Ept} (h : e.small) : (⟨e, []⟩ : Hst).small := ⟨h, by show 0 ≤ _; omega, fun x hx => by cases hx⟩
theorem w_HNewY {e : Ept} (hf : e.fits) (hsm : e.small) (hce : eptB e = true) : Fun Tryz.prog 14 [agg (rowEp e)] (tup [agg (rowH ⟨e, []⟩), int 0]) := by
  have := w_HNew hf hsm; rw [if_pos hce, if_pos hce] at this; exact this
theorem w_HNewN {e : Ept} (hf : e.fits) (hsm : e.small) (hce : eptB e = false) : Fun Tryz.prog 14 [agg (rowEp e)] (tup [agg (rowH zeroH), int 19]) := by
  have := w_HNew hf hsm; rw [if_neg (by rw [hce]; decide), if_neg (by rw [hce]; decide)] at this; exact this
theorem ep0_fits : zeroEp.fits := ⟨by show 0 ≤ _; omega, fun x hx => by cases hx⟩
theorem ep0_small : zeroEp.small := ⟨by show 0 ≤ _; omega, by show 0 ≤ _; omega, by show 0 ≤ _; omega, by show 0 ≤ _; omega, fun x hx => by cases hx⟩
abbrev eH : Ept := ⟨[97, 112, 112], 1, 3, [], false, [], [], [], false⟩
theorem eH_fits : eH.fits := ⟨by show 3 ≤ maxLen; unfold maxLen; omega, fun x hx => by cases hx⟩
theorem eH_small : eH.small := ⟨by show 0 ≤ _; omega, by show 0 ≤ _; omega, by show 0 ≤ _; omega, by show 0 ≤ _; omega, fun x hx => by cases hx⟩
theorem eH_ok : eptB eH = true := by decide
theorem w_HBack0 {e : Ept} (h : e.small) : Fun Tryz.prog 19 [agg (rowH ⟨e, []⟩)] (tup [agg (rowH ⟨e, []⟩), int 4]) := w_HBack (hs0 h)

theorem w_awake36   : Fun Tryz.prog 11 [] (bool true) := by
 refine Fun.of Tryz.func11 rfl rfl (by exact Nat.le_of_ble_eq_true rfl) fun M0 w0 => ?_
 refine Tr.seq (Tr.reg0 (cm rfl (Ch.nil (Fin.go (Tr.seq (Tr.regT (tp rfl (ok_build (rows := []) rfl bl35 zo35 trivial rfl) (tp rfl (ok_call rfl (w_HNewN ep0_fits ep0_small (by decide)) ⟨⟨_, rfl, agg_le ⟨Pr.le_refl _, Pr.le_refl _, Pr.le_refl _, nil_slice 1, Pr.le_refl _, nil_slice 4, nil_slice 1, nil_slice 1, Pr.le_refl _, trivial⟩⟩, trivial⟩) (tm rfl (tp rfl (ok_extract rfl (vl rfl) rfl) (tp rfl (ok_extract rfl (vl rfl) rfl) ?_)))))))))))
 refine TO.alloc rfl rfl (by decide) rfl z37 zo37 (fun b1 => ?_)
 refine TO.store_all 0 rfl rfl rfl (vl rfl) (VL.le (vl rfl) (agg_cellsP _)) rfl sz37 rfl rfl (TO.freeze 0 1 rfl rfl (tm rfl (TO.nil (Fin.go (Tr.seq (Tr.regT (tp rfl (ok_build (rows := [(0, [_]), (1, [_]), (2, [_])]) rfl bl35 zo35 ⟨⟨rfl, (VL.le (vl rfl) (one_cellsP _))⟩, ⟨⟨rfl, (VL.le (vl rfl) (one_cellsP _))⟩, ⟨⟨rfl, (VL.le (vl rfl) (one_cellsP _))⟩, trivial⟩⟩⟩ rfl) (tp rfl (ok_call rfl (w_HNewY eH_fits eH_small eH_ok) ⟨⟨_, rfl, agg_le ⟨Pr.le_refl _, Pr.le_refl _, Pr.le_refl _, nil_slice 1, Pr.le_refl _, nil_slice 4, nil_slice 1, nil_slice 1, Pr.le_refl _, trivial⟩⟩, trivial⟩) (tm rfl (tp rfl (ok_extract rfl (vl rfl) rfl) (tp rfl (ok_extract rfl (vl rfl) rfl) ?_)))))))))))
 refine TO.alloc rfl rfl (by decide) rfl z37 zo37 (fun b2 => ?_)
 refine TO.store_all 0 rfl rfl rfl (vl rfl) (VL.le (vl rfl) (agg_cellsP _)) rfl sz37 rfl rfl (TO.freeze 0 3 rfl rfl (tm rfl (TO.nil (Fin.go (wk3 2 3 4 rfl (Tr.seq (Tr.regT (tp rfl (ok_loadA rfl agg37 sz37 (vl rfl) rfl rfl) (tp rfl (ok_call rfl (w_HBack0 eH_small) ⟨ke rfl, trivial⟩) (tm rfl (tp rfl (ok_extract rfl (vl rfl) rfl) (tp rfl (ok_extract rfl (vl rfl) rfl) ?_))))))))))))
 refine TO.alloc rfl rfl (by decide) rfl z37 zo37 (fun b3 => ?_)
 refine TO.store_all 0 rfl rfl rfl (vl rfl) (VL.le (vl rfl) (agg_cellsP _)) rfl sz37 rfl rfl (TO.freeze 0 5 rfl rfl (tm rfl (TO.nil (Fin.go (Tr.seq (Tr.reg0 (cm rfl (co rfl (ki rfl rfl rfl rfl) (cm rfl ?_)))))))))
 refine Ch.cs 24 rfl ?_ ?_ <;> intro h1 q1
 refine cym h1 rfl (cy h1 rfl (ki rfl rfl rfl rfl) (co rfl (kpt rfl rfl h1 rfl) (cm rfl ?_)))
 refine Ch.cs 28 rfl ?_ ?_ <;> intro h2 q2
 refine cy h2 rfl (kfa rfl fo37_0 rfl rfl) (cy h2 rfl (kfa rfl fo35_0 rfl rfl) (cy h2 rfl (kl1 rfl one9 rfl) (cy h2 rfl (ok_eqs rfl (vl rfl) (vl rfl)) (co rfl (kpt rfl rfl h2 rfl) (cm rfl ?_)))))
 refine Ch.cs 34 rfl ?_ ?_ <;> intro h3 q3
 refine cym h3 rfl (cy h3 rfl (ki rfl rfl rfl rfl) (co rfl (kpt rfl rfl h3 rfl) (cm rfl (Ch.nil (Fin.go (wk1 0 rfl (Tr.ret (Fin.ret1 rfl (OutW.bse _ _) rfl ?_))))))))
 · exact Pr.le_refl _
 exact absurd h3 (by decide)
 exact absurd h2 (by decide)
 exact absurd h1 (by decide)
end Go.Proofs.YtflodcidhlmaaaaGreat
namespace Go.Proofs.YtflodcidhlmaaaaGreat
open Go Go.RowKit Cp

structure RestP (e x : Ept) (k : Int) : Prop where
  suites : k = 1 ∨ k = 2 → ({ x with suites := e.suites } : Ept) = e
  most : k = 3 → ({ x with most := e.most } : Ept) = e
  least : k = 4 → ({ x with least := e.least } : Ept) = e
  ids : k = 5 ∨ k = 6 → ({ x with ids := e.ids } : Ept) = e
  anchors : k = 7 ∨ k = 8 → ({ x with anchors := e.anchors } : Ept) = e
  hashes : k = 9 ∨ k = 10 → ({ x with hashes := e.hashes } : Ept) = e
  fall : k = 11 → ({ x with fall := e.fall } : Ept) = e
  own : k = 12 → ({ x with own := e.own } : Ept) = e
theorem rest_step {e : Ept} {c : Chg} {x : Ept} {b : Chg} (hc : okCh c) (h : stepR e c = .ok (x, b)) : RestP e x c.kind := by
  rcases kinds12 hc.1 with hk | hk | hk | hk | hk | hk | hk | hk | hk | hk | hk | hk
  · rw [stepR_1 hk] at h; rw [hk]
    (repeat' (split at h)) <;> first | (cases h; done) | (injection h with h; obtain ⟨rfl, rfl⟩ := Prod.mk.inj h; constructor <;> intro h0 <;> first | rfl | (exfalso; omega))
  · rw [stepR_2 hk] at h; rw [hk]
    (repeat' (split at h)) <;> first | (cases h; done) | (injection h with h; obtain ⟨rfl, rfl⟩ := Prod.mk.inj h; constructor <;> intro h0 <;> first | rfl | (exfalso; omega))
  · rw [stepR_3 hk] at h; rw [hk]
    (repeat' (split at h)) <;> first | (cases h; done) | (injection h with h; obtain ⟨rfl, rfl⟩ := Prod.mk.inj h; constructor <;> intro h0 <;> first | rfl | (exfalso; omega))
  · rw [stepR_4 hk] at h; rw [hk]
    (repeat' (split at h)) <;> first | (cases h; done) | (injection h with h; obtain ⟨rfl, rfl⟩ := Prod.mk.inj h; constructor <;> intro h0 <;> first | rfl | (exfalso; omega))
  · rw [stepR_5 hk] at h; rw [hk]
    (repeat' (split at h)) <;> first | (cases h; done) | (injection h with h; obtain ⟨rfl, rfl⟩ := Prod.mk.inj h; constructor <;> intro h0 <;> first | rfl | (exfalso; omega))
  · rw [stepR_6 hk] at h; rw [hk]
    (repeat' (split at h)) <;> first | (cases h; done) | (injection h with h; obtain ⟨rfl, rfl⟩ := Prod.mk.inj h; constructor <;> intro h0 <;> first | rfl | (exfalso; omega))
  · rw [stepR_7 hk] at h; rw [hk]
    (repeat' (split at h)) <;> first | (cases h; done) | (injection h with h; obtain ⟨rfl, rfl⟩ := Prod.mk.inj h; constructor <;> intro h0 <;> first | rfl | (exfalso; omega))
  · rw [stepR_8 hk] at h; rw [hk]
    (repeat' (split at h)) <;> first | (cases h; done) | (injection h with h; obtain ⟨rfl, rfl⟩ := Prod.mk.inj h; constructor <;> intro h0 <;> first | rfl | (exfalso; omega))
  · rw [stepR_9 hk] at h; rw [hk]
    (repeat' (split at h)) <;> first | (cases h; done) | (injection h with h; obtain ⟨rfl, rfl⟩ := Prod.mk.inj h; constructor <;> intro h0 <;> first | rfl | (exfalso; omega))
  · rw [stepR_10 hk] at h; rw [hk]
    (repeat' (split at h)) <;> first | (cases h; done) | (injection h with h; obtain ⟨rfl, rfl⟩ := Prod.mk.inj h; constructor <;> intro h0 <;> first | rfl | (exfalso; omega))
  · rw [stepR_11 hk] at h; rw [hk]
    (repeat' (split at h)) <;> first | (cases h; done) | (injection h with h; obtain ⟨rfl, rfl⟩ := Prod.mk.inj h; constructor <;> intro h0 <;> first | rfl | (exfalso; omega))
  · rw [stepR_12 hk] at h; rw [hk]
    (repeat' (split at h)) <;> first | (cases h; done) | (injection h with h; obtain ⟨rfl, rfl⟩ := Prod.mk.inj h; constructor <;> intro h0 <;> first | rfl | (exfalso; omega))

/-- It says that it is done. -/
theorem step_twice {e : Ept} {c : Chg} {x : Ept} {b : Chg} (he : EptOk e) (hc : okCh c) (h : stepR e c = .ok (x, b)) : stepR x c = .error 41 := by
  rcases kinds12 hc.1 with hk | hk | hk | hk | hk | hk | hk | hk | hk | hk | hk | hk
  · rw [stepR_1 hk] at h
    split at h
    · cases h
    next hr =>
    split at h
    · cases h
    next hn =>
    have hr := Classical.not_not.1 hr
    injection h with h; obtain ⟨rfl, rfl⟩ := Prod.mk.inj h
    obtain ⟨i, hi⟩ := Int.eq_ofNat_of_zero_le hr.1
    have hin : (e.suites.take c.at_.toNat ++ [c.number] ++ e.suites.drop c.at_.toNat)[c.at_.toNat]? = some c.number := ins_at (by omega)
    have hl : (e.suites.take c.at_.toNat ++ [c.number] ++ e.suites.drop c.at_.toNat).length = e.suites.length + 1 := ins_len (by omega)
    rw [stepR_1 hk]
    rw [if_neg (by show ¬ ¬ (0 ≤ c.at_ ∧ c.at_ ≤ ((e.suites.take c.at_.toNat ++ [c.number] ++ e.suites.drop c.at_.toNat).length : Nat)); omega)]; exact if_pos (List.any_eq_true.2 ⟨_, List.mem_of_getElem? hin, by simp⟩)
  · rw [stepR_2 hk] at h
    split at h
    · cases h
    next hn =>
    injection h with h; obtain ⟨rfl, rfl⟩ := Prod.mk.inj h
    have hn' : ¬ idx (fun y => c.number == y) e.suites < 0 := hn
    obtain ⟨y, hy, hp, hlt⟩ := idx_hit (p := fun y => c.number == y) (l := e.suites) (by omega)
    have hyc : c.number = y := by simpa using hp
    have hany : ((e.suites.eraseIdx (sIdx e c).toNat).any fun y => c.number == y) = false := any_erase (fun j z hj hz => by
      have hz : c.number = z := by simpa using hz
      have hy' : e.suites[(sIdx e c).toNat]? = some z := by rw [← hz, hyc]; exact hy
      exact suites_one he.suites hj hy')
    rw [stepR_2 hk]
    exact if_pos (idx_none' hany)
  · rw [stepR_3 hk] at h
    split at h
    · cases h
    next hn =>
    injection h with h; obtain ⟨rfl, rfl⟩ := Prod.mk.inj h
    rw [stepR_3 hk]
    exact if_pos rfl
  · rw [stepR_4 hk] at h
    split at h
    · cases h
    next hn =>
    injection h with h; obtain ⟨rfl, rfl⟩ := Prod.mk.inj h
    rw [stepR_4 hk]
    exact if_pos rfl
  · rw [stepR_5 hk] at h
    split at h
    · cases h
    next hr =>
    split at h
    · cases h
    next hn =>
    have hr := Classical.not_not.1 hr
    injection h with h; obtain ⟨rfl, rfl⟩ := Prod.mk.inj h
    obtain ⟨i, hi⟩ := Int.eq_ofNat_of_zero_le hr.1
    have hn' : ¬ 0 ≤ keyIdx c.idn.keyId e.ids := hn
    have hany : (e.ids.any fun x => x.keyId == c.idn.keyId) = false := idx_lt0 (show keyIdx c.idn.keyId e.ids < 0 by omega)
    have hx : keyIdx c.idn.keyId (e.ids.take c.at_.toNat ++ [c.idn] ++ e.ids.drop c.at_.toNat) = ((c.at_.toNat : Nat) : Int) := idx_ins (by omega) (by simp) hany
    have hl : (e.ids.take c.at_.toNat ++ [c.idn] ++ e.ids.drop c.at_.toNat).length = e.ids.length + 1 := ins_len (by omega)
    rw [stepR_5 hk]
    rw [if_neg (by show ¬ ¬ (0 ≤ c.at_ ∧ c.at_ ≤ ((e.ids.take c.at_.toNat ++ [c.idn] ++ e.ids.drop c.at_.toNat).length : Nat)); omega)]; exact if_pos (by show 0 ≤ keyIdx c.idn.keyId (e.ids.take c.at_.toNat ++ [c.idn] ++ e.ids.drop c.at_.toNat); omega)
  · rw [stepR_6 hk] at h
    split at h
    · cases h
    next x0 hx0 =>
    split at h
    · cases h
    next hn =>
    split at h
    · cases h
    next ht =>
    injection h with h; obtain ⟨rfl, rfl⟩ := Prod.mk.inj h
    have hany : ((e.ids.eraseIdx (keyIdx c.number e.ids).toNat).any fun x => x.keyId == c.number) = false := by
      refine any_erase (fun j z hj hz => ?_)
      have h1 := idx_first (p := fun x : Idn => x.keyId == c.number) (l := e.ids) (by unfold keyIdx at hn; omega) hj hz
      have h1 : (keyIdx c.number e.ids).toNat ≤ j := h1
      rcases Nat.lt_or_eq_of_le h1 with h2 | h2
      · exfalso; apply ht; rw [List.any_eq_true]
        refine ⟨z, List.mem_of_getElem? (i := j - (keyIdx c.number e.ids + 1).toNat) ?_, hz⟩
        rw [List.getElem?_drop, show (keyIdx c.number e.ids + 1).toNat + (j - (keyIdx c.number e.ids + 1).toNat) = j by omega]; exact hj
      · exact h2.symm
    have hlt : keyIdx c.number (e.ids.eraseIdx (keyIdx c.number e.ids).toNat) < 0 := idx_none' hany
    rw [stepR_6 hk]
    split
    · rfl
    · exact if_pos hlt
  · rw [stepR_7 hk] at h
    split at h
    · cases h
    next hn =>
    injection h with h; obtain ⟨rfl, rfl⟩ := Prod.mk.inj h
    rw [stepR_7 hk]
    exact if_pos (posI_ins (ascI_of he.anc)).2
  · rw [stepR_8 hk] at h
    split at h
    next hn =>
      injection h with h; obtain ⟨rfl, rfl⟩ := Prod.mk.inj h
      rw [stepR_8 hk]
      exact if_neg (show ¬ hasX (e.anchors.eraseIdx (posI e.anchors c.number)) c.number = true by rw [(posI_del (ascI_of he.anc) hn).2]; decide)
    · cases h
  · rw [stepR_9 hk] at h
    split at h
    · cases h
    next hn =>
    injection h with h; obtain ⟨rfl, rfl⟩ := Prod.mk.inj h
    rw [stepR_9 hk]
    exact if_pos (posI_ins (ascI_of he.hash)).2
  · rw [stepR_10 hk] at h
    split at h
    next hn =>
      injection h with h; obtain ⟨rfl, rfl⟩ := Prod.mk.inj h
      rw [stepR_10 hk]
      exact if_neg (show ¬ hasX (e.hashes.eraseIdx (posI e.hashes c.number)) c.number = true by rw [(posI_del (ascI_of he.hash) hn).2]; decide)
    · cases h
  · rw [stepR_11 hk] at h
    split at h
    · cases h
    next hr =>
    split at h
    · cases h
    next hn =>
    have hr := Classical.not_not.1 hr
    injection h with h; obtain ⟨rfl, rfl⟩ := Prod.mk.inj h
    have hb := bit_back hr hn
    rw [stepR_11 hk]
    rw [if_neg (fun h => h hr)]; exact if_pos hb.2.2.2
  · rw [stepR_12 hk] at h
    split at h
    · cases h
    next hr =>
    split at h
    · cases h
    next hn =>
    have hr := Classical.not_not.1 hr
    injection h with h; obtain ⟨rfl, rfl⟩ := Prod.mk.inj h
    have hb := bit_back hr hn
    rw [stepR_12 hk]
    rw [if_neg (fun h => h hr)]; exact if_pos hb.2.2.2

theorem done_twice {e : Ept} {c : Chg} {x : Ept} {b : Chg} (h : doneR e c = (x, b, 0)) : doneR x c = (zeroEp, zeroChg, 41) ∧ RestP e x c.kind ∧ x ≠ e ∧ eptB x = true := by
  obtain ⟨h1, h2, h3, h4⟩ := doneR_inv h
  have h5 := step_twice h1 h2 h3
  refine ⟨doneR_err (eptB_iff.2 h4) h2 h5, rest_step h2 h3, ?_, eptB_iff.2 h4⟩
  rintro rfl; rw [h5] at h3; cases h3
end Go.Proofs.YtflodcidhlmaaaaGreat
namespace Go.Proofs.YtflodcidhlmaaaaGreat
open Go Go.RowKit Cp

theorem idx_snoc {β : Type} {p : β → Bool} {l : List β} {k : Nat} {x : β} (h : l[k]? = some x) : idx p (l.take (k + 1)) = if idx p (l.take k) < 0 then (if p x = true then (k : Int) else -1) else idx p (l.take k) := by
  have hk := lt_of_at h
  rw [List.take_add_one, h]
  have hl : (l.take k).length = k := by rw [List.length_take]; omega
  show idx p (l.take k ++ [x]) = _
  generalize l.take k = a at hl ⊢
  unfold idx
  rw [List.findIdx?_append]
  cases ha : a.findIdx? p with
  | some i => simp; intro h3; omega
  | none => cases hp : p x <;> simp [hp, hl]
theorem cnt_snoc {β : Type} {p : β → Bool} {l : List β} {k : Nat} {x : β} (h : l[k]? = some x) : (((l.take (k + 1)).countP p : Nat) : Int) = ((l.take k).countP p : Nat) + (if p x = true then 1 else 0) := by
  rw [List.take_add_one, h]
  show (((l.take k ++ [x]).countP p : Nat) : Int) = _
  rw [List.countP_append, List.countP_singleton]; split <;> simp_all
theorem idx_cnt {β : Type} {p : β → Bool} {l : List β} : idx p l < 0 ↔ l.countP p = 0 := by
  unfold idx
  cases h : l.findIdx? p with
  | none =>
    rw [List.findIdx?_eq_none_iff] at h
    simp only [show ((none : Option Nat).map fun n => (n : Int)).getD (-1) = -1 from rfl]
    constructor
    · intro _; rw [List.countP_eq_zero]; intro a ha; rw [h a ha]; decide
    · intro _; decide
  | some i =>
    rw [List.findIdx?_eq_some_iff_getElem] at h
    obtain ⟨h1, h2, _⟩ := h
    constructor
    · intro h3; exfalso; revert h3; simp
    · intro h3; rw [List.countP_eq_zero] at h3; exact absurd h2 (h3 _ (List.getElem_mem h1))
theorem cnt_le {β : Type} {p : β → Bool} {l : List β} {k n : Nat} (h : l.length ≤ n) : (l.take k).countP p ≤ n := Nat.le_trans List.countP_le_length (Nat.le_trans (by rw [List.length_take]; omega) h)
theorem bsX {l : List Int} {n x : Int} {k : Nat} (h : ∀ (j : Nat) y, j < k → l[j]? = some y → y < n) (hx : l[k]? = some x) (hlt : x < n) : ∀ (j : Nat) y, j < k + 1 → l[j]? = some y → y < n := by
  intro j y hj hy
  rcases Nat.lt_or_eq_of_le (Nat.le_of_lt_succ hj) with h1 | h1
  · exact h j y h1 hy
  · subst h1; rw [hx] at hy; cases hy; exact hlt
def keyP (id : Int) (x : Idn) : Bool := x.keyId == id
def cntK (id : Int) (l : List Idn) : Int := ((l.countP (keyP id) : Nat) : Int)
theorem keyIdx_eq (id : Int) (l : List Idn) : keyIdx id l = idx (keyP id) l := rfl
theorem cntK_snoc {id : Int} {l : List Idn} {k : Nat} {x : Idn} (h : l[k]? = some x) : cntK id (l.take (k + 1)) = cntK id (l.take k) + (if x.keyId = id then 1 else 0) := by
  unfold cntK; rw [cnt_snoc h]; unfold keyP; simp only [beq_iff_eq]
theorem keyIdx_snoc {id : Int} {l : List Idn} {k : Nat} {x : Idn} (h : l[k]? = some x) : keyIdx id (l.take (k + 1)) = if cntK id (l.take k) = 0 then (if x.keyId = id then (k : Int) else -1) else keyIdx id (l.take k) := by
  rw [keyIdx_eq, keyIdx_eq, idx_snoc h]
  have := idx_cnt (p := keyP id) (l := l.take k)
  unfold cntK
  by_cases h2 : idx (keyP id) (l.take k) < 0
  · have h4 : (((l.take k).countP (keyP id) : Nat) : Int) = 0 := by rw [this.1 h2]; rfl
    rw [if_pos h2, if_pos h4]; unfold keyP; simp only [beq_iff_eq]
  · rw [if_neg h2, if_neg (fun h3 => h2 (this.2 (by omega)))]
theorem keyIdx_cnt0 {id : Int} {l : List Idn} (h : cntK id l = 0) : keyIdx id l = -1 := by
  have h2 := (idx_cnt (p := keyP id) (l := l)).2 (by unfold cntK at h; omega)
  rw [keyIdx_eq]; unfold idx at h2 ⊢
  cases h3 : l.findIdx? (keyP id) with
  | none => rfl
  | some i => rw [h3] at h2; simp at h2; omega
def valR (e : Ept) (k : Int) : Int × Bool := if k = 3 then (e.most, true) else if k = 4 then (e.least, true) else if k = 11 then (bitI e.fall, true) else if k = 12 then (bitI e.own, true) else (0, false)
def lstR (e : Ept) (k : Int) : List Int × Bool × Bool :=
  if k = 1 ∨ k = 2 then (e.suites, decide (k = 1), true) else if k = 7 ∨ k = 8 then (e.anchors, decide (k = 7), true) else if k = 9 ∨ k = 10 then (e.hashes, decide (k = 9), true) else ([], false, false)
theorem noneB_dec (x : Idn) : decide (x = zeroId) = noneB x := by
  rw [Bool.eq_iff_iff, decide_eq_true_eq]; unfold noneB zeroId
  cases x; simp only [Idn.mk.injEq, Bool.and_eq_true, decide_eq_true_eq, beq_iff_eq, and_assoc]
  constructor
  · rintro ⟨h1, h2, h3, h4⟩; exact ⟨h1, h2, h3, by simp [h4]⟩
  · rintro ⟨h1, h2, h3, h4⟩; exact ⟨h1, h2, h3, List.eq_nil_of_length_eq_zero (by omega)⟩

theorem w_R24place {l : List Int} {n : Int}  : Fun Tryz.prog 75 [ints l, int n] (int (idx (fun y => n == y) l)) := by
 refine fo Tryz.func75 rfl ⟨rfl, rfl⟩ fun M0 w0 => (Tr.lenm 0 rfl fun hlm_0 => ?_)
 refine ac ?_
 refine ac ?_
 refine Tr.block (Tr.loopw [(1, _), (7, _), (8, _)] (kk3 rfl) (fun k : Nat => [(9, int ((k : Nat) : Int))]) (fun k : Nat => k ≤ (l).length ∧ (∀ j y, j < k → l[j]? = some y → (n == y) = false)) (fun k : Nat => (l).length - k) 0 (⟨Nat.zero_le _, fun j y hj => absurd hj (by omega)⟩) ⟨ke rfl, trivial⟩ ?_)
 rintro k ⟨hle_k, hinv_k⟩
 refine ac ?_
 refine Tr.seq ?_
 refine Tr.cn rfl ?_ ?_ <;> intro h1 q1
 have hk_k : k < (l).length := lt_of_dec h1
 obtain ⟨x, hx_k⟩ := at_ hk_k
 refine ac ?_
 refine ac ?_
 refine co rfl (ok_indexAddr rfl Tryz.underlying22 sz3 (vl rfl) (vl rfl) (by omega) (by exact row_at (by assumption))) ?_
 refine ac ?_
 refine ac ?_
 refine Tr.cn rfl ?_ ?_ <;> intro h2 q2
 refine ac ?_
 refine wk1 4 rfl ?_
 refine ac ?_
 · exact int_eq (idx_found (p := fun y => n == y) hx_k (by simp; omega) hinv_k)
 refine ac ?_
 refine ac ?_
 exact Fin.fam_same (k + 1) ⟨⟨hk_k, step_no (p := fun y => n == y) hx_k (by simp; omega) hinv_k⟩, by omega⟩ ⟨⟨_, rfl, int_succ k⟩, ke rfl, ke rfl, ke rfl, trivial⟩
 have he_k : k = (l).length := by have := ge_of_dec h1; omega
 subst he_k
 refine ac ?_
 refine ac ?_
 refine ac ?_
 · exact int_eq (idx_none (p := fun y => n == y) hinv_k)
theorem w_R24keys {e : Ept} {id : Int} (hl : e.ids.length ≤ 1000000) : Fun Tryz.prog 76 [agg (rowEp e), int id] (tup [int (cntK id e.ids), int (keyIdx id e.ids)]) := by
 refine fo Tryz.func76 rfl ⟨rfl, rfl⟩ fun M0 w0 => ?_
 refine ac ?_
 refine ac ?_
 refine ac ?_
 refine Tr.block (Tr.loopw [(1, _), (11, _), (12, _)] (kk3 rfl) (fun k : Nat => [(13, int ((k : Nat) : Int)), (6, int (cntK id (e.ids.take k))), (7, int (keyIdx id (e.ids.take k)))]) (fun k : Nat => k ≤ (e.ids).length) (fun k : Nat => (e.ids).length - k) 0 (Nat.zero_le _) ⟨ke rfl, ⟨_, rfl, int_eq rfl⟩, ⟨_, rfl, int_eq rfl⟩, trivial⟩ ?_)
 rintro k hle_k
 refine ac ?_
 refine Tr.seq ?_
 refine Tr.cn rfl ?_ ?_ <;> intro h1 q1
 have hk_k : k < (e.ids).length := lt_of_dec h1
 obtain ⟨x, hx_k⟩ := at_ hk_k
 have hc := cntK_snoc (id := id) hx_k
 have hi := keyIdx_snoc (id := id) hx_k
 have hcl : 0 ≤ cntK id (e.ids.take k) ∧ cntK id (e.ids.take k) ≤ 1000000 := ⟨by unfold cntK; omega, by have := cnt_le (p := keyP id) (k := k) hl; unfold cntK; omega⟩
 have h0 := keyIdx_cnt0 (id := id) (l := e.ids.take k)
 refine ac ?_
 refine ao ?_
 refine tp rfl (ok_indexAddr rfl Tryz.underlying33 sz47 (vl rfl) (vl rfl) (by omega) (by exact row_at (by assumption))) ?_
 refine tp rfl (ok_loadA rfl agg47 sz47 (vl rfl) rfl rfl) ?_
 refine TO.alloc rfl rfl (by decide) rfl z47 zo47 (fun b1 => ?_)
 refine tm rfl ?_
 refine sf 0 9 ⟨rfl, rfl, rfl⟩ rfl rfl rfl rfl ?_
 refine ao ?_
 refine wk8 1 6 7 8 9 11 12 13 rfl ?_
 refine ac ?_
 refine Tr.cn rfl ?_ ?_ <;> intro h2 q2
 refine ac ?_
 refine wk8 1 6 7 8 11 12 13 23 rfl ?_
 refine Tr.cn rfl ?_ ?_ <;> intro h3 q3
 refine ac ?_
 refine ac ?_
 refine ac ?_
 exact Fin.fam_same (k + 1) ⟨hk_k, by omega⟩ ⟨⟨_, rfl, int_succ k⟩, ⟨_, rfl, int_eq (by simp_all)⟩, ⟨_, rfl, int_eq (by simp_all)⟩, ke rfl, ke rfl, ke rfl, trivial⟩
 refine ac ?_
 refine ac ?_
 refine ac ?_
 exact Fin.fam_same (k + 1) ⟨hk_k, by omega⟩ ⟨⟨_, rfl, int_succ k⟩, ⟨_, rfl, int_eq (by simp_all)⟩, ⟨_, rfl, int_eq (by simp_all)⟩, ke rfl, ke rfl, ke rfl, trivial⟩
 refine ac ?_
 refine ac ?_
 exact Fin.fam_same (k + 1) ⟨hk_k, by omega⟩ ⟨⟨_, rfl, int_succ k⟩, ⟨_, rfl, int_eq (by simp_all)⟩, ⟨_, rfl, int_eq (by simp_all)⟩, ke rfl, ke rfl, ke rfl, trivial⟩
 have he_k : k = (e.ids).length := by have := ge_of_dec h1; omega
 subst he_k
 rw [List.take_length]
 refine ac ?_
 refine ac ?_
 refine Tr.ret (Fin.ret2 rfl (OutW.bse _ _) rfl ?_ rfl ?_)
 · exact Pr.le_refl _
 · exact Pr.le_refl _
theorem w_R24bit {b : Bool}  : Fun Tryz.prog 117 [bool b] (int (bitI b)) := by
 refine fo Tryz.func117 rfl ⟨rfl, rfl⟩ fun M0 w0 => ?_
 refine ac ?_
 refine ac ?_
 refine Tr.cn rfl ?_ ?_ <;> intro h1 q1
 refine ac ?_
 refine ac ?_
 · exact int_eq (by simp_all [bitI])
 refine ac ?_
 refine ac ?_
 refine ac ?_
 · exact int_eq (by simp_all [bitI])
theorem w_R24value {e : Ept} {k : Int}  : Fun Tryz.prog 78 [agg (rowEp e), int k] (tup [int (valR e k).1, bool (valR e k).2]) := by
 refine fo Tryz.func78 rfl ⟨rfl, rfl⟩ fun M0 w0 => ?_
 refine ac ?_
 refine ac ?_
 refine ac ?_
 refine Tr.cn rfl ?_ ?_ <;> intro h1 q1
 refine ac ?_
 refine Tr.ret (Fin.block_ret (Fin.then_ret (Fin.ret2 rfl (OutW.bse _ _) rfl ?_ rfl ?_)))
 · exact int_eq (by simp_all [valR])
 · exact bool_eq (by simp_all [valR])
 refine ac ?_
 refine Tr.cn rfl ?_ ?_ <;> intro h2 q2
 refine ac ?_
 refine Tr.ret (Fin.block_ret (Fin.then_ret (Fin.ret2 rfl (OutW.bse _ _) rfl ?_ rfl ?_)))
 · exact int_eq (by simp_all [valR])
 · exact bool_eq (by simp_all [valR])
 refine ac ?_
 refine Tr.cn rfl ?_ ?_ <;> intro h3 q3
 refine ac ?_
 refine co rfl (kc1 (w_R24bit) rfl rfl) ?_
 refine ac ?_
 refine wk2 4 5 rfl (Tr.ret (Fin.block_ret (Fin.then_ret (Fin.ret2 rfl (OutW.bse _ _) rfl ?_ rfl ?_))))
 · exact int_eq (by simp_all [valR])
 · exact bool_eq (by simp_all [valR])
 refine ac ?_
 refine Tr.cn rfl ?_ ?_ <;> intro h4 q4
 refine ac ?_
 refine co rfl (kc1 (w_R24bit) rfl rfl) ?_
 refine ac ?_
 refine wk2 4 5 rfl (Tr.ret (Fin.block_ret (Fin.then_ret (Fin.ret2 rfl (OutW.bse _ _) rfl ?_ rfl ?_))))
 · exact int_eq (by simp_all [valR])
 · exact bool_eq (by simp_all [valR])
 refine ac ?_
 refine ac ?_
 refine wk2 4 5 rfl (Tr.ret (Fin.ret2 rfl (OutW.bse _ _) rfl ?_ rfl ?_))
 · exact int_eq (by simp_all [valR])
 · exact bool_eq (by simp_all [valR])
theorem w_R24form {c : Chg} (hcs : c.idn.small) : Fun Tryz.prog 97 [agg (rowChg c)] (bool (decide (okCh c))) := by
 refine fo Tryz.func97 rfl ⟨rfl, rfl⟩ fun M0 w0 => ?_
 refine ac ?_
 refine ac ?_
 refine co rfl (ok_call rfl (w_R24SameI (a := c.idn) (b := zeroId) hcs) ⟨ke rfl, ⟨_, rfl, agg_le ⟨Pr.le_refl _, Pr.le_refl _, Pr.le_refl _, nil_slice 15, trivial⟩⟩, trivial⟩) ?_
 refine ac ?_
 refine ac ?_
 refine ac ?_
 refine Tr.cn rfl ?_ ?_ <;> intro h1 q1
 refine ac ?_
 refine ac ?_
 · refine bool_eq ?_; (try simp only [noneB_dec] at *); rw [Bool.eq_iff_iff, decide_eq_true_eq]; unfold okCh leanB; simp_all
 refine ac ?_
 refine Tr.cn rfl ?_ ?_ <;> intro h2 q2
 refine ac ?_
 refine wk1 2 rfl ?_
 refine ac ?_
 · refine bool_eq ?_; (try simp only [noneB_dec] at *); rw [Bool.eq_iff_iff, decide_eq_true_eq]; unfold okCh leanB; simp_all
 refine ac ?_
 refine ac ?_
 refine Ch.cs 21 rfl ?_ ?_ <;> intro h3 q3
 refine ac ?_
 refine Ch.cs 26 rfl ?_ ?_ <;> intro h4 q4
 refine ac ?_
 refine Ch.cs 29 rfl ?_ ?_ <;> intro h5 q5
 refine ac ?_
 refine wk1 2 rfl ?_
 refine ac ?_
 · refine bool_eq ?_; (try simp only [noneB_dec] at *); rw [Bool.eq_iff_iff, decide_eq_true_eq]; unfold okCh leanB; simp_all
 refine ac ?_
 refine wk1 2 rfl ?_
 refine ac ?_
 · refine bool_eq ?_; (try simp only [noneB_dec] at *); rw [Bool.eq_iff_iff, decide_eq_true_eq]; unfold okCh leanB; simp_all
 refine ac ?_
 refine wk1 2 rfl ?_
 refine ac ?_
 · refine bool_eq ?_; (try simp only [noneB_dec] at *); rw [Bool.eq_iff_iff, decide_eq_true_eq]; unfold okCh leanB; simp_all; omega
 refine ac ?_
 refine wk1 2 rfl ?_
 refine ac ?_
 · refine bool_eq ?_; (try simp only [noneB_dec] at *); rw [Bool.eq_iff_iff, decide_eq_true_eq]; unfold okCh leanB; simp_all; omega
theorem w_R24listed {e : Ept} {k : Int}  : Fun Tryz.prog 98 [agg (rowEp e), int k] (tup [ints (lstR e k).1, bool (lstR e k).2.1, bool (lstR e k).2.2]) := by
 refine fo Tryz.func98 rfl ⟨rfl, rfl⟩ fun M0 w0 => ?_
 refine ac ?_
 refine ac ?_
 refine ac ?_
 refine Tr.cn rfl ?_ ?_ <;> intro h1 q1
 refine ac ?_
 refine Tr.cond rfl (fun _ => ?_) (fun h => nomatch h1.symm.trans h)
 refine ac ?_
 refine wk3 4 5 6 rfl (Tr.ret (Fin.block_ret (Fin.then_ret (Fin.ret3 rfl (OutW.bse _ _) rfl ?_ rfl ?_ rfl ?_))))
 · exact Pr.le_of_eq (by simp_all [lstR])
 · exact bool_eq (by simp_all [lstR])
 · exact bool_eq (by simp_all [lstR])
 refine ac ?_
 refine Tr.cn rfl ?_ ?_ <;> intro h2 q2
 refine ac ?_
 refine wk3 4 5 6 rfl (Tr.ret (Fin.block_ret (Fin.then_ret (Fin.ret3 rfl (OutW.bse _ _) rfl ?_ rfl ?_ rfl ?_))))
 · exact Pr.le_of_eq (by simp_all [lstR])
 · exact bool_eq (by simp_all [lstR])
 · exact bool_eq (by simp_all [lstR])
 refine ac ?_
 refine Tr.cn rfl ?_ ?_ <;> intro h3 q3
 refine ac ?_
 refine Tr.cond rfl (fun _ => ?_) (fun h => nomatch h3.symm.trans h)
 refine ac ?_
 refine wk3 4 5 6 rfl (Tr.ret (Fin.block_ret (Fin.then_ret (Fin.ret3 rfl (OutW.bse _ _) rfl ?_ rfl ?_ rfl ?_))))
 · exact Pr.le_of_eq (by simp_all [lstR])
 · exact bool_eq (by simp_all [lstR])
 · exact bool_eq (by simp_all [lstR])
 refine ac ?_
 refine Tr.cn rfl ?_ ?_ <;> intro h4 q4
 refine ac ?_
 refine wk3 4 5 6 rfl (Tr.ret (Fin.block_ret (Fin.then_ret (Fin.ret3 rfl (OutW.bse _ _) rfl ?_ rfl ?_ rfl ?_))))
 · exact Pr.le_of_eq (by simp_all [lstR])
 · exact bool_eq (by simp_all [lstR])
 · exact bool_eq (by simp_all [lstR])
 refine ac ?_
 refine wk4 1 2 7 22 rfl ?_
 refine Tr.cn rfl ?_ ?_ <;> intro h5 q5
 refine ac ?_
 refine Tr.cond rfl (fun _ => ?_) (fun h => nomatch h5.symm.trans h)
 refine ac ?_
 refine Tr.ret (Fin.block_ret (Fin.then_ret (Fin.ret3 rfl (OutW.bse _ _) rfl ?_ rfl ?_ rfl ?_)))
 · exact Pr.le_of_eq (by simp_all [lstR])
 · exact bool_eq (by simp_all [lstR])
 · exact bool_eq (by simp_all [lstR])
 refine ac ?_
 refine Tr.cn rfl ?_ ?_ <;> intro h6 q6
 refine ac ?_
 refine Tr.ret (Fin.block_ret (Fin.then_ret (Fin.ret3 rfl (OutW.bse _ _) rfl ?_ rfl ?_ rfl ?_)))
 · exact Pr.le_of_eq (by simp_all [lstR])
 · exact bool_eq (by simp_all [lstR])
 · exact bool_eq (by simp_all [lstR])
 refine ac ?_
 refine ac ?_
 refine Tr.ret (Fin.ret3 rfl (OutW.bse _ _) rfl ?_ rfl ?_ rfl ?_)
 · exact Pr.le_trans (nil_slice 1) (Pr.le_of_eq (by rw [show (lstR e k).1 = [] by simp_all [lstR]]; rfl))
 · exact bool_eq (by simp_all [lstR])
 · exact bool_eq (by simp_all [lstR])
theorem w_R24with {l : List Int} {i : Nat} {n : Int} (hi : i ≤ l.length) (hl : l.length ≤ 1000000) : Fun Tryz.prog 99 [ints l, int ((i : Nat) : Int), int n] (ints (l.take i ++ [n] ++ l.drop i)) := by
 refine fo Tryz.func99 rfl ⟨rfl, rfl⟩ fun M0 w0 => ?_
 have hml : (l.map fun n : Int => [int n]).length = l.length := List.length_map _
 refine ac ?_
 refine ap ?_
 refine tp rfl (ok_sliceTo rfl Tryz.underlying22 sz3 (vl rfl) (vl rfl) (by omega) (by omega)) (TO.pad ?_)
 refine TO.efs 0 rfl rfl (by decide) (ef_append rfl rfl (by decide) rfl Tryz.underlying22 sz3 by3 z3 rfl (by decide) ⟨_, rfl, nil_slice _⟩ (vl rfl) (by simp only [List.length_map, List.length_append, List.length_cons, List.length_nil, List.length_take, List.length_drop]; unfold maxLen; omega) (by simp only [List.length_map, List.length_append, List.length_cons, List.length_nil, List.length_take, List.length_drop]; omega) (appR_full (by exact List.Mem.head _) ⟨_, rfl, nil_full 1⟩)) (fun v1 => ?_)
 refine ap ?_
 refine ap ?_
 refine TO.efs 0 rfl rfl (by decide) (ef_append rfl rfl (by decide) rfl Tryz.underlying22 sz3 by3 z3 rfl (by decide) ⟨_, rfl, andIs_le _ _⟩ ⟨_, rfl, full_le _ _⟩ (by simp only [List.length_map, List.length_append, List.length_cons, List.length_nil, List.length_take, List.length_drop]; unfold maxLen; omega) (by simp only [List.length_map, List.length_append, List.length_cons, List.length_nil, List.length_take, List.length_drop]; omega) (appR_is (by exact List.Mem.head _) ⟨_, rfl, andIs_is _ _⟩)) (fun v2 => ?_)
 refine ap ?_
 refine ap ?_
 refine tp rfl (ok_sliceFrom rfl Tryz.underlying22 sz3 (vl rfl) (vl rfl) (by omega) (by omega)) ?_
 refine TO.efs 0 rfl rfl (by decide) (ef_append rfl rfl (by decide) rfl Tryz.underlying22 sz3 by3 z3 rfl (by decide) ⟨_, rfl, andIs_le _ _⟩ (vl rfl) (by simp only [List.length_map, List.length_append, List.length_cons, List.length_nil, List.length_take, List.length_drop]; unfold maxLen; omega) (by simp only [List.length_map, List.length_append, List.length_cons, List.length_nil, List.length_take, List.length_drop]; omega) (appR_is (by exact List.Mem.head _) ⟨_, rfl, andIs_is _ _⟩)) (fun v3 => ?_)
 refine ap ?_
 refine wk1 6 rfl ?_
 refine ac ?_
 · exact Pr.le_trans (andIs_le _ _) (Pr.le_of_eq (by show _ = slice 1 ((l.take i ++ [n] ++ l.drop i).map fun n => [int n]); simp [List.map_take, List.map_drop]))
theorem w_R24without {l : List Int} {i : Nat} (hi : i < l.length) (hl : l.length ≤ 1000000) : Fun Tryz.prog 100 [ints l, int ((i : Nat) : Int)] (ints (l.eraseIdx i)) := by
 refine fo Tryz.func100 rfl ⟨rfl, rfl⟩ fun M0 w0 => ?_
 have hml : (l.map fun n : Int => [int n]).length = l.length := List.length_map _
 refine ac ?_
 refine ap ?_
 refine tp rfl (ok_sliceTo rfl Tryz.underlying22 sz3 (vl rfl) (vl rfl) (by omega) (by omega)) (TO.pad ?_)
 refine TO.efs 0 rfl rfl (by decide) (ef_append rfl rfl (by decide) rfl Tryz.underlying22 sz3 by3 z3 rfl (by decide) ⟨_, rfl, nil_slice _⟩ (vl rfl) (by simp only [List.length_map, List.length_append, List.length_cons, List.length_nil, List.length_take, List.length_drop]; unfold maxLen; omega) (by simp only [List.length_map, List.length_append, List.length_cons, List.length_nil, List.length_take, List.length_drop]; omega) (appR_full (by exact List.Mem.head _) ⟨_, rfl, nil_full 1⟩)) (fun v1 => ?_)
 refine ap ?_
 refine ap ?_
 refine tp rfl (ok_sliceFrom rfl Tryz.underlying22 sz3 (vl rfl) (vl rfl) (by omega) (by omega)) ?_
 refine TO.efs 0 rfl rfl (by decide) (ef_append rfl rfl (by decide) rfl Tryz.underlying22 sz3 by3 z3 rfl (by decide) ⟨_, rfl, andIs_le _ _⟩ (vl rfl) (by simp only [List.length_map, List.length_append, List.length_cons, List.length_nil, List.length_take, List.length_drop]; unfold maxLen; omega) (by simp only [List.length_map, List.length_append, List.length_cons, List.length_nil, List.length_take, List.length_drop]; omega) (appR_is (by exact List.Mem.head _) ⟨_, rfl, andIs_is _ _⟩)) (fun v2 => ?_)
 refine ap ?_
 refine ac ?_
 · exact Pr.le_trans (andIs_le _ _) (Pr.le_of_eq (by rw [List.eraseIdx_eq_take_drop_succ]; show _ = slice 1 ((l.take i ++ l.drop (i + 1)).map fun n => [int n]); simp [List.map_take, List.map_drop, show (((i : Nat) : Int) + 1).toNat = i + 1 by omega]))
theorem w_R24sorted {l : List Int} {n : Int} (hl : l.length ≤ 1000000) : Fun Tryz.prog 101 [ints l, int n] (ints (insX l n)) := by
 refine fo Tryz.func101 rfl ⟨rfl, rfl⟩ fun M0 w0 => (Tr.lenm 0 rfl fun hlm_0 => ?_)
 refine ac ?_
 refine ac ?_
 refine Tr.seq (Tr.block (Tr.loopw [(0, _), (1, _)] (kk2 rfl) (fun k : Nat => [(5, int ((k : Nat) : Int))]) (fun k : Nat => k ≤ l.length ∧ (∀ j y, j < k → l[j]? = some y → y < n)) (fun k : Nat => l.length - k) 0 (⟨Nat.zero_le _, fun j y hj => absurd hj (by omega)⟩) ⟨ke rfl, trivial⟩ ?_))
 rintro k ⟨hle_k, hinv⟩
 refine ac ?_
 refine Ch.cs 10 rfl ?_ ?_ <;> intro h1 q1
 obtain ⟨x, hx⟩ := at_ (l := l) (k := k) (by omega)
 refine ac ?_
 refine cy h1 rfl (ok_indexAddr rfl Tryz.underlying22 sz3 (vl rfl) (vl rfl) (by omega) (row_at hx)) ?_
 refine ac ?_
 refine wk4 0 1 5 17 rfl ?_
 refine Tr.cn rfl ?_ ?_ <;> intro h2 q2
 have hq := h2
 refine ac ?_
 refine ac ?_
 exact Fin.fam_same (k + 1) ⟨⟨by omega, bsX hinv hx (by simpa using hq)⟩, by omega⟩ ⟨⟨_, rfl, int_succ k⟩, ke rfl, ke rfl, trivial⟩
 have hp : posI l n = k := posI_eq hle_k hinv (fun y hy => by have h_ := h2; rw [hx] at hy; cases hy; simpa using h_)
 refine ac ?_
 refine ac ?_
 refine co rfl (ok_call rfl (w_R24with (l := l) (i := posI l n) (posI_le _ _) hl) ⟨ke rfl, ⟨_, rfl, int_eq (by omega)⟩, ke rfl, trivial⟩) ?_
 refine ac ?_
 refine ac ?_
 · exact Pr.le_refl _
 have hp : posI l n = k := posI_eq hle_k hinv (fun y hy => by have := lt_of_at hy; have := q1; omega)
 refine ac ?_
 refine wk4 0 1 5 17 rfl ?_
 refine ac ?_
 refine ac ?_
 refine co rfl (ok_call rfl (w_R24with (l := l) (i := posI l n) (posI_le _ _) hl) ⟨ke rfl, ⟨_, rfl, int_eq (by omega)⟩, ke rfl, trivial⟩) ?_
 refine ac ?_
 refine ac ?_
 · exact Pr.le_refl _
end Go.Proofs.YtflodcidhlmaaaaGreat
namespace Go.Proofs.YtflodcidhlmaaaaGreat
open Go Go.RowKit Cp

def alw (e : Ept) (c : Chg) : Int :=
  if eptB e = false then 19 else if ¬ okCh c then 40
  else if c.kind = 1 ∧ (c.at_ < 0 ∨ (e.suites.length : Int) < c.at_) then 2
  else if c.kind = 5 ∧ (c.at_ < 0 ∨ (e.ids.length : Int) < c.at_) then 2
  else if (c.kind = 11 ∨ c.kind = 12) ∧ (c.number ≠ 0 ∧ c.number ≠ 1) then 2
  else if (lstR e c.kind).2.2 = true ∧ decide (0 ≤ idx (fun y => c.number == y) (lstR e c.kind).1) = (lstR e c.kind).2.1 then 41
  else if (valR e c.kind).2 = true ∧ (valR e c.kind).1 = c.number then 41
  else if c.kind = 5 ∧ 0 < cntK c.idn.keyId e.ids then 41
  else if c.kind = 6 ∧ cntK c.number e.ids = 0 then 41
  else if c.kind = 6 ∧ 1 < cntK c.number e.ids then 5 else 0
theorem idx_has {l : List Int} (hs : AscI l) {n : Int} : idx (fun y => n == y) l = if hasX l n = true then ((posI l n : Nat) : Int) else -1 := by
  by_cases h : hasX l n = true
  · rw [if_pos h]
    obtain ⟨y, hy⟩ := at_ (hasX_lt h)
    have hyn : y = n := by have h2 := hasX_at rfl hy; rw [h] at h2; simpa using h2.symm
    exact (idx_found (p := fun y => n == y) hy (by simp [hyn]) (fun j z hj hz => by have := posI_lt hj hz; simp; omega)).symm
  · rw [if_neg h]
    refine (idx_none (p := fun y => n == y) (fun j z hj hz => ?_)).symm
    simp only [beq_eq_false_iff_ne, ne_eq]
    intro hn; subst hn
    rcases Nat.lt_trichotomy j (posI l n) with h1 | h1 | h1
    · have := posI_lt h1 hz; omega
    · subst h1; exact h (by rw [hasX_at rfl hz]; simp)
    · obtain ⟨y, hy⟩ := at_ (l := l) (k := posI l n) (by have := lt_of_at hz; omega)
      have h2 := posI_ge hy
      have h3 := ascI_lt hs h1 hy hz
      omega
theorem dup_cnt {l : List Idn} {n : Int} {x : Idn} (h0 : ¬ keyIdx n l < 0) (hx : l[(keyIdx n l).toNat]? = some x) : (1 < cntK n l) ↔ ((l.drop (keyIdx n l + 1).toNat).any fun x => x.keyId == n) = true := by
  obtain ⟨y, hy, hp, hlt⟩ := idx_hit (p := keyP n) (l := l) (by rw [← keyIdx_eq]; omega)
  rw [← keyIdx_eq] at hy hlt
  have hsplit : l = l.take (keyIdx n l).toNat ++ y :: l.drop ((keyIdx n l).toNat + 1) := by
    rw [List.getElem?_eq_getElem hlt] at hy; cases hy
    rw [List.getElem_cons_drop]; exact (List.take_append_drop _ _).symm
  have h1 : (l.take (keyIdx n l).toNat).countP (keyP n) = 0 := by
    refine idx_cnt.1 (Int.not_le.1 fun h2 => ?_)
    obtain ⟨z, hz, hzp, hzl⟩ := idx_hit h2
    have e1 : keyIdx n l = idx (keyP n) (l.take (keyIdx n l).toNat) := by
      obtain ⟨i, hi⟩ : ∃ i : Nat, idx (keyP n) (l.take (keyIdx n l).toNat) = (i : Int) := ⟨_, (Int.toNat_of_nonneg h2).symm⟩
      have h3 : ((l.take (keyIdx n l).toNat).findIdx? (keyP n)) = some i := by
        unfold idx at hi; cases h4 : (l.take (keyIdx n l).toNat).findIdx? (keyP n) with
        | none => rw [h4] at hi; simp at hi
        | some k => rw [h4] at hi; rw [show k = i by simp at hi; omega]
      have h5 : l.findIdx? (keyP n) = some i := by
        rw [← List.take_append_drop (keyIdx n l).toNat l, List.findIdx?_append, h3]; rfl
      have e2 : idx (keyP n) l = (i : Int) := by unfold idx; rw [h5]
      exact e2.trans hi.symm
    rw [← e1] at hzl; rw [List.length_take] at hzl; omega
  have h2 : l.countP (keyP n) = 1 + (l.drop ((keyIdx n l).toNat + 1)).countP (keyP n) := by
    conv => lhs; rw [hsplit]
    rw [List.countP_append, h1, List.countP_cons, hp]; simp; omega
  unfold cntK; rw [h2, show (keyIdx n l + 1).toNat = (keyIdx n l).toNat + 1 by omega]
  show _ ↔ (List.any _ (keyP n)) = true
  rw [List.any_eq_true, ← List.countP_pos_iff]; omega
theorem dec_any {l : List Int} {n : Int} : decide (0 ≤ idx (fun y => n == y) l) = l.any fun y => n == y := idx_any _ _
theorem dec_has {l : List Int} (hs : AscI l) {n : Int} : decide (0 ≤ idx (fun y => n == y) l) = hasX l n := by
  rw [idx_has hs]; cases hasX l n <;> simp
theorem alw_step {e : Ept} {c : Chg} (hce : eptB e = true) (hc : okCh c) : alw e c = match stepR e c with | .error f => f | .ok _ => 0 := by
  have ok := eptB_iff.1 hce
  have ha := ascI_of ok.anc; have hh := ascI_of ok.hash
  have hk := hc.1
  unfold alw
  rw [if_neg (by rw [hce]; decide), if_neg (not_not_intro hc)]
  have h0 : c.kind = 1 ∨ c.kind = 2 ∨ c.kind = 3 ∨ c.kind = 4 ∨ c.kind = 5 ∨ c.kind = 6 ∨ c.kind = 7 ∨ c.kind = 8 ∨ c.kind = 9 ∨ c.kind = 10 ∨ c.kind = 11 ∨ c.kind = 12 := by omega
  rcases h0 with h | h | h | h | h | h | h | h | h | h | h | h
  · rw [stepR_1 h]; unfold lstR valR; simp only [h]
    by_cases h1 : c.at_ < 0 ∨ (e.suites.length : Int) < c.at_
    · have h2 : ¬ (0 ≤ c.at_ ∧ c.at_ ≤ (e.suites.length : Int)) := by omega
      simp [h1, h2]
    · have h2 : 0 ≤ c.at_ ∧ c.at_ ≤ (e.suites.length : Int) := by omega
      have h3 := dec_any (l := e.suites) (n := c.number)
      have h4 : (0 ≤ idx (fun y => c.number == y) e.suites) ↔ (e.suites.any fun y => c.number == y) = true := by rw [← h3, decide_eq_true_eq]
      by_cases h5 : (e.suites.any fun y => c.number == y) = true
      · have h6 := h4.2 h5; simp only [h5]; simp [h1, h2, h6]
      · have h6 : ¬ 0 ≤ idx (fun y => c.number == y) e.suites := fun h => h5 (h4.1 h)
        simp only [h5]; simp [h1, h2, h6]
  · rw [stepR_2 h]; unfold lstR valR sIdx; simp only [h]
    by_cases h1 : idx (fun y => c.number == y) e.suites < 0
    · simp [h1]
    · simp [h1]
  · rw [stepR_3 h]; unfold lstR valR; simp only [h]; by_cases h1 : e.most = c.number <;> simp [h1]
  · rw [stepR_4 h]; unfold lstR valR; simp only [h]; by_cases h1 : e.least = c.number <;> simp [h1]
  · rw [stepR_5 h]; unfold lstR valR; simp only [h]
    have hcnt := idx_cnt (p := keyP c.idn.keyId) (l := e.ids)
    rw [← keyIdx_eq] at hcnt
    by_cases h1 : c.at_ < 0 ∨ (e.ids.length : Int) < c.at_
    · have h2 : ¬ (0 ≤ c.at_ ∧ c.at_ ≤ (e.ids.length : Int)) := by omega
      simp [h1, h2]
    · have h3 : 0 ≤ c.at_ ∧ c.at_ ≤ (e.ids.length : Int) := by omega
      by_cases h2 : 0 ≤ keyIdx c.idn.keyId e.ids
      · have : 0 < cntK c.idn.keyId e.ids := by unfold cntK; omega
        simp [h1, h2, h3, this]
      · have : ¬ 0 < cntK c.idn.keyId e.ids := by unfold cntK; omega
        simp [h1, h2, h3, this]
  · rw [stepR_6 h]; unfold lstR valR; simp only [h]
    have hcnt := idx_cnt (p := keyP c.number) (l := e.ids)
    rw [← keyIdx_eq] at hcnt
    by_cases h2 : keyIdx c.number e.ids < 0
    · have : cntK c.number e.ids = 0 := by unfold cntK; omega
      cases e.ids[(keyIdx c.number e.ids).toNat]? <;> simp [h2, this]
    · have h3 : ¬ cntK c.number e.ids = 0 := by unfold cntK; omega
      obtain ⟨x, hx, _, _⟩ := idx_hit (p := fun x : Idn => x.keyId == c.number) (l := e.ids) (by unfold keyIdx at h2; omega)
      have hx : e.ids[(keyIdx c.number e.ids).toNat]? = some x := hx
      have hd := dup_cnt h2 hx
      rw [hx]; simp only [if_neg h2]
      by_cases h4 : ((e.ids.drop (keyIdx c.number e.ids + 1).toNat).any fun x => x.keyId == c.number) = true
      · have := hd.2 h4; simp only [h4]; simp [h3, this]
      · have : ¬ 1 < cntK c.number e.ids := fun h5 => h4 (hd.1 h5)
        simp only [h4]; simp [h3, this]
  · rw [stepR_7 h]; unfold lstR valR; simp only [h]
    have h1 : (0 ≤ idx (fun y => c.number == y) e.anchors) ↔ hasX e.anchors c.number = true := by rw [← dec_has ha, decide_eq_true_eq]
    by_cases h2 : hasX e.anchors c.number = true
    · have h3 := h1.2 h2; simp [h2, h3]
    · have h3 : ¬ 0 ≤ idx (fun y => c.number == y) e.anchors := fun h => h2 (h1.1 h)
      simp [h2, h3]
  · rw [stepR_8 h]; unfold lstR valR; simp only [h]
    have h1 : (0 ≤ idx (fun y => c.number == y) e.anchors) ↔ hasX e.anchors c.number = true := by rw [← dec_has ha, decide_eq_true_eq]
    by_cases h2 : hasX e.anchors c.number = true
    · have h3 := h1.2 h2; simp [h2, h3]
    · have h3 : ¬ 0 ≤ idx (fun y => c.number == y) e.anchors := fun h => h2 (h1.1 h)
      simp [h2, h3]
  · rw [stepR_9 h]; unfold lstR valR; simp only [h]
    have h1 : (0 ≤ idx (fun y => c.number == y) e.hashes) ↔ hasX e.hashes c.number = true := by rw [← dec_has hh, decide_eq_true_eq]
    by_cases h2 : hasX e.hashes c.number = true
    · have h3 := h1.2 h2; simp [h2, h3]
    · have h3 : ¬ 0 ≤ idx (fun y => c.number == y) e.hashes := fun h => h2 (h1.1 h)
      simp [h2, h3]
  · rw [stepR_10 h]; unfold lstR valR; simp only [h]
    have h1 : (0 ≤ idx (fun y => c.number == y) e.hashes) ↔ hasX e.hashes c.number = true := by rw [← dec_has hh, decide_eq_true_eq]
    by_cases h2 : hasX e.hashes c.number = true
    · have h3 := h1.2 h2; simp [h2, h3]
    · have h3 : ¬ 0 ≤ idx (fun y => c.number == y) e.hashes := fun h => h2 (h1.1 h)
      simp [h2, h3]
  · rw [stepR_11 h]; unfold lstR valR; simp only [h]
    by_cases h1 : 0 ≤ c.number ∧ c.number ≤ 1
    · have : ¬ (c.number ≠ 0 ∧ c.number ≠ 1) := by omega
      by_cases h2 : bitI e.fall = c.number <;> simp [this, h1, h2]
    · have : c.number ≠ 0 ∧ c.number ≠ 1 := by omega
      simp [this, h1]
  · rw [stepR_12 h]; unfold lstR valR; simp only [h]
    by_cases h1 : 0 ≤ c.number ∧ c.number ≤ 1
    · have : ¬ (c.number ≠ 0 ∧ c.number ≠ 1) := by omega
      by_cases h2 : bitI e.own = c.number <;> simp [this, h1, h2]
    · have : c.number ≠ 0 ∧ c.number ≠ 1 := by omega
      simp [this, h1]
theorem alw_bad {e : Ept} {c : Chg} (h : alw e c ≠ 0) : doneR e c = (zeroEp, zeroChg, alw e c) := by
  by_cases hce : eptB e = false
  · have : alw e c = 19 := by unfold alw; rw [if_pos hce]
    rw [this]; unfold doneR; rw [if_pos hce]
  · by_cases hc : okCh c
    · have hce : eptB e = true := by simpa using hce
      have hs := alw_step hce hc
      cases h2 : stepR e c with
      | error f => rw [h2] at hs; rw [doneR_err hce hc h2, show alw e c = f from hs]
      | ok r => rw [h2] at hs; exact absurd hs h
    · have : alw e c = 40 := by unfold alw; rw [if_neg hce, if_pos hc]
      rw [this]; unfold doneR; rw [if_neg hce, if_pos hc]
theorem alw_ok {e : Ept} {c : Chg} (h : alw e c = 0) : eptB e = true ∧ okCh c ∧ ∃ e2 b, stepR e c = .ok (e2, b) := by
  by_cases hce : eptB e = false
  · have : alw e c = 19 := by unfold alw; rw [if_pos hce]
    rw [this] at h; cases h
  · by_cases hc : okCh c
    · have hce : eptB e = true := by simpa using hce
      have hs := alw_step hce hc
      cases h2 : stepR e c with
      | error f =>
        rw [h2] at hs; rw [h] at hs
        have h3 : (0 : Int) = f := hs
        have := stepR_ne hc h2; omega
      | ok r => exact ⟨hce, hc, r.1, r.2, rfl⟩
    · have : alw e c = 40 := by unfold alw; rw [if_neg hce, if_pos hc]
      rw [this] at h; cases h

end Go.Proofs.YtflodcidhlmaaaaGreat
