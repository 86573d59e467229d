/-
  The law of what a host remembers.
-/
import Derived.Test.YtflodcidhlmaaaaRows
import Derived.Test.YtflodcidhlmaaaaHsDP3
set_option linter.all false
set_option maxRecDepth 40000
set_option maxHeartbeats 16000000
namespace Go.Proofs.Ytflodcidhlmaaaa
open Go Go.RowKit Cp

abbrev u32R : Pr := Cp.ex fun n : Int => fact (0 ≤ n ∧ n < 4294967296) (is (.int .u32 n))
abbrev sumE : Pr := Cp.ex fun n : Int => fact (0 ≤ n ∧ n < 4294967296) (int n)
theorem u32_any : Pr.le u32R (anyK .u32) := fun _ _ _ ⟨n, _, h⟩ => ⟨n, h⟩
section
variable {P : Program} {I : Asn} {E : Env} {o : Oper}
theorem ok_convK {s t : TypeId} {x : Operand} {k k' : IntKind} (ho : o.op = .convert s t x) (hs : P.underlying s = some (.int k)) (ht : P.underlying t = some (.int k')) (hx : VL E x (anyK k)) : OpOK P I o E (anyK k') :=
  OpOK.same fun M w a he _ => by
    obtain ⟨n, h1⟩ := hx.ev he (by simp [ho, Op.operands])
    have h1 : a.eval x = .int k n := h1
    refine ⟨.int k' (k'.wrap n), ?_, _, rfl⟩
    simp [execOp, ho, h1, convert, run_underlying hs, run_underlying ht, Conv.intToInt, Sem.run_bind]
theorem ok_mulU {t u : TypeId} {x y : Operand} (ho : o.op = .binOp .mul t x y u) (hx : VL E x (anyK .u32)) (hy : VL E y (anyK .u32)) : OpOK P I o E u32R :=
  OpOK.same fun M w a he _ => by
    obtain ⟨m, h1⟩ := hx.ev he (by simp [ho, Op.operands])
    obtain ⟨n, h2⟩ := hy.ev he (by simp [ho, Op.operands])
    have h1 : a.eval x = .int .u32 m := h1
    have h2 : a.eval y = .int .u32 n := h2
    refine ⟨.int .u32 (IntKind.u32.wrap (m * n)), by simp [execOp, ho, h1, h2, eqGuard, binOp, Op.intArith], _, ?_, rfl⟩
    rw [IntKind.wrap_u32]; omega
theorem ok_conv32 {s t : TypeId} {x : Operand} (ho : o.op = .convert s t x) (hs : P.underlying s = some (.int .u32)) (ht : P.underlying t = some (.int .i64)) (hx : VL E x u32R) : OpOK P I o E sumE :=
  OpOK.same fun M w a he _ => by
    obtain ⟨n, hn, h1⟩ := hx.ev he (by simp [ho, Op.operands])
    have h1 : a.eval x = .int .u32 n := h1
    refine ⟨.int .i64 (IntKind.i64.wrap n), ?_, n, hn, by rw [wrap_in (by unfold InI; omega)]; rfl⟩
    simp [execOp, ho, h1, convert, run_underlying hs, run_underlying ht, Conv.intToInt, Sem.run_bind]
end
theorem Fun.elemsE {P : Program} {f : FuncId} {row : List Pr} (h : ∀ m, m ≤ 20 → Fun P f [slice 4 (List.replicate m row)] (slice 4 (List.replicate m row))) : Fun P f [Go.Proofs.Ytflodcidhlmaaaa.elemsE row] (Go.Proofs.Ytflodcidhlmaaaa.elemsE row) := by
  refine ⟨(h 0 (by omega)).1, fun M w vs hb hv => ?_⟩
  match vs, hv with
  | [u0], hv1 =>
    obtain ⟨⟨m, hm, h0⟩, _⟩ := hv1
    exact ((h m hm).2 M w [u0] hb ⟨h0, trivial⟩).mono fun e w' ⟨v, h1, h2, h3⟩ => ⟨v, h1, ⟨m, hm, h2⟩, h3⟩
theorem Fun.bytesE {P : Program} {f : FuncId} {B : Nat} {res : Pr} (h : ∀ m, m ≤ B → Fun P f [bts m] res) : Fun P f [Go.Proofs.Ytflodcidhlmaaaa.bytesE B] res := by
  refine ⟨(h 0 (by omega)).1, fun M w vs hb hv => ?_⟩
  match vs, hv with
  | [u0], hv1 =>
    obtain ⟨⟨m, hm, h0⟩, _⟩ := hv1
    exact (h m hm).2 M w [u0] hb ⟨h0, trivial⟩
abbrev qA1 : Pr := elemsE (rowQ q0)
abbrev qA2 : Pr := elemsE (rowQ qA1)
theorem q0_le : Pr.le q0 qA1 := ex_in 0 (fact_in (by omega) (Pr.le_refl _))
theorem rc0 : Fun Try.prog 144 [q0] q0 := w_rcopies (m := 0) (q := q0) (by omega) (.inl rfl)
theorem rc1 (m : Nat) (hm : m ≤ 20) : Fun Try.prog 144 [slice 4 (List.replicate m (rowQ q0))] (slice 4 (List.replicate m (rowQ q0))) := w_rcopies hm (.inr rc0)
theorem rc2 (m : Nat) (hm : m ≤ 20) : Fun Try.prog 144 [slice 4 (List.replicate m (rowQ qA1))] (slice 4 (List.replicate m (rowQ qA1))) := w_rcopies hm (.inr (Fun.elemsE rc1))
theorem rf0 : Fun Try.prog 118 [agg (rowQ q0)] anyB := Fun.rowQ0 fun t b n hb => w_rformed (m := 0) (q := q0) hb (by omega) (.inl rfl)
theorem rf1 : Fun Try.prog 118 [agg (rowQ qA1)] anyB := Fun.rowQ fun t b n m hb hm => w_rformed hb hm (.inr rf0)
theorem rf2 : Fun Try.prog 118 [agg (rowQ qA2)] anyB := Fun.rowQ fun t b n m hb hm => w_rformed hb hm (.inr rf1)
theorem rd0 : Fun Try.prog 119 [agg (rowQ q0)] (depthE 1) := Fun.rowQ0 fun t b n hb => w_rdepth (m := 0) (q := q0) (D := 0) hb (by omega) (by omega) (.inl rfl)
theorem rd1 : Fun Try.prog 119 [agg (rowQ qA1)] (depthE 2) := Fun.rowQ fun t b n m hb hm => w_rdepth hb hm (by omega) (.inr rd0)
theorem rd2 : Fun Try.prog 119 [agg (rowQ qA2)] (depthE 3) := Fun.rowQ fun t b n m hb hm => w_rdepth hb hm (by omega) (.inr rd1)
theorem rp0 : Fun Try.prog 120 [agg (rowQ q0)] (bytesE 2002) := Fun.rowQ0 fun t b n hb => w_rput (m := 0) (q := q0) (B := 0) hb (by omega) (by omega) (.inl rfl)
theorem rp1 : Fun Try.prog 120 [agg (rowQ qA1)] (bytesE 82082) := Fun.rowQ fun t b n m hb hm => w_rput (B := 2002) hb hm (by omega) (.inr rp0)
theorem rp2 : Fun Try.prog 120 [agg (rowQ qA2)] (bytesE 3285282) := Fun.rowQ fun t b n m hb hm => w_rput (B := 82082) hb hm (by omega) (.inr rp1)
theorem rE2 : Fun Try.prog 94 [agg (rowQ qA2)] (tup [bytesE 3285282, anyK .i64]) := w_rEncode rf2 rd2 rp2
/-- Its numbers are small. -/
structure Crt.tiny (c : Crt) : Prop where
  serial : c.serial ≤ 40000
  keyId : c.keyId ≤ 40000
  kalg : 0 ≤ c.kalg ∧ c.kalg ≤ 40000
  kbits : 0 ≤ c.kbits ∧ c.kbits ≤ 40000
  halg : 0 ≤ c.halg ∧ c.halg ≤ 40000
  hbits : 0 ≤ c.hbits ∧ c.hbits ≤ 40000
theorem named_len {s : List UInt8} (h : named s = true) : s.length ≤ 32 := by unfold named at h; simp at h; omega

theorem w_R3use {a b : Int} (ha : 0 ≤ a ∧ a ≤ 40000) (hb : 0 ≤ b ∧ b ≤ 40000) : Fun Try.prog 124 [agg [int a, int b]] (agg (rowQ qA1)) := by
 refine fo Try.func124 rfl ⟨rfl, rfl⟩ fun M0 w0 => (Tr.seq (Tr.regT (tp rfl (ok_box rfl (VL.le (vl rfl) (agg_cellsP _))) ?_)))
 refine TO.alloc rfl rfl (by decide) rfl z139 zo139 (fun b1 => ?_)
 refine ap ?_
 refine Tr.seq (Tr.rx ?_)
 refine ay ?_
 refine xo rfl (fun _ => kc1 (w_rInt ha) rfl rfl) ?_
 refine ay ?_
 refine xo rfl (fun _ => kc1 (w_rInt hb) rfl rfl) (xo rfl (fun _ => ok_buildSlice (xs := [.tmp 5, .tmp 8]) (rows := [_, _]) rfl rfl Try.underlying137 sz139 z139 rfl (by decide) ⟨⟨(by exact rfl), (VL.le (vl rfl) (agg_cellsP _))⟩, ⟨⟨(by exact rfl), (VL.le (vl rfl) (agg_cellsP _))⟩, trivial⟩⟩ (by decide)) ?_)
 refine xo rfl (fun _ => ok_call rfl (w_rList (m := 2) (q := q0) (by omega) (rc1 _ (by omega))) ⟨⟨_, rfl, full_le _ _⟩, trivial⟩) ?_
 refine Cx.ef0 0 rfl rfl (ef_store rfl rfl (vl rfl) (VL.le (vl rfl) (agg_cellsP _)) sz139 rfl (by exact Nat.le_of_ble_eq_true rfl) rfl) ?_
 refine Cx.nil ⟨by kernel_rfl, ?_⟩
 refine FinX.done al1 (Fin.go (Tr.ret (Fin.retX1 rfl (RVal.cell 0 rfl rfl agg139 sz139 rfl (Pr.le_refl _)) ?_)))
 · exact Pr.le_refl _
theorem w_R3body {c : Crt} (hv : validB c = true) (ht : c.tiny) : Fun Try.prog 95 [agg (rowCr c)] (agg (rowQ qA2)) := by
 refine fo Try.func95 rfl ⟨rfl, rfl⟩ fun M0 w0 => ?_
 obtain ⟨hs0, hs1, hiss, hsub, hnm, hkey, hk0, hk1, hhash, hsk0, hsk1, hsu0, hsu1, hf0, hft, ht1, hp0, hp1, hap⟩ := vf_of hv
 obtain ⟨g1, g2, g3, g4, g5, g6⟩ := ht
 have hnm2 := hnm
 unfold namesB at hnm2
 rw [Bool.and_eq_true, allI_iff, decide_eq_true_eq] at hnm2
 obtain ⟨hall, hlen8⟩ := hnm2
 have hli := named_len hiss
 have hlj := named_len hsub
 refine Tr.seq (Tr.regT (tp rfl (ok_box rfl (VL.le (vl rfl) (agg_cellsP _))) ?_))
 refine TO.alloc rfl rfl (by decide) rfl z139 zo139 (fun b1 => ?_)
 refine ap ?_
 refine ac ?_
 refine ac ?_
 refine Tr.block (Tr.addnil 139 4 (Tr.loopV1 [(1, _), (2, _)] ⟨ke rfl, ke rfl, trivial⟩ (fun k v => [(4, int ((k : Nat) : Int)), (3, andIs v (slice 4 (List.replicate k (rowQ q0))))]) (fun k v => Hp M0 w0 noS ([appRes 139 4 v, cellsRes true b1 139 (([.int .i64 0, .slice none 0 0, .bool false, .slice none 0 0] : List Value).map is)])) (fun k : Nat => k ≤ (c.names).length) (fun k : Nat => (c.names).length - k) 0 (.slice none 0 0) (Nat.zero_le _) ⟨ke rfl, ⟨_, rfl, own_nil rfl⟩, trivial⟩ (fun _ _ h => h) ?_))
 rintro k v hle_k
 refine ac ?_
 refine Tr.cn rfl ?_ ?_ <;> intro h1 q1
 have hk_k : k < (c.names).length := lt_of_dec h1
 obtain ⟨s, hx_k⟩ := at_ hk_k
 have hsn := named_len (name_at (hall k (by omega)) hx_k)
 refine ac ?_
 refine ap ?_
 refine tp rfl (ok_indexAddr rfl Try.underlying62 sz9 (vl rfl) (vl rfl) (by omega) (by exact row_at (by assumption))) ?_
 refine tp rfl (kl1 rfl one9 rfl) (tp rfl (kc1 (w_rText (by omega)) rfl rfl) (tp rfl (ok_buildSlice (xs := [.tmp 18]) (rows := [_]) rfl rfl Try.underlying137 sz139 z139 rfl (by decide) ⟨⟨(by exact rfl), (VL.le (vl rfl) (agg_cellsP _))⟩, trivial⟩ (by decide)) ?_))
 refine TO.efs 0 rfl rfl (by decide) (ef_append rfl rfl (by decide) rfl Try.underlying137 sz139 by139 z139 rfl (by decide) ⟨_, rfl, andIs_le _ _⟩ ⟨_, rfl, full_le _ _⟩ (by simp only [List.length_append, List.length_replicate, List.length_cons, List.length_nil]; unfold maxLen; omega) (by simp only [List.length_append, List.length_replicate, List.length_cons, List.length_nil]; omega) (appR_is (by exact List.Mem.head _) ⟨_, rfl, andIs_is _ _⟩)) (fun v1 => ?_)
 refine ap ?_
 refine wk4 1 2 3 4 rfl ?_
 refine ac ?_
 exact Fin.famV1 (k + 1) v1 (⟨hk_k, by omega⟩) ⟨⟨_, rfl, int_succ k⟩, ⟨_, rfl, own_le (by rw [rep_one])⟩, ke rfl, ke rfl, trivial⟩ (fun _ _ h => h)
 have he_k : k = (c.names).length := by have := ge_of_dec h1; omega
 refine ac ?_
 refine Tr.seq (Tr.rx ?_)
 refine ay ?_
 refine xo rfl (fun _ => kc1 (w_rInt (by omega)) rfl rfl) ?_
 refine ay ?_
 refine xo rfl (fun _ => kc1 (w_rText (by omega)) rfl rfl) ?_
 refine ay ?_
 refine xo rfl (fun _ => kc1 (w_rText (by omega)) rfl rfl) ?_
 refine ay ?_
 refine xo rfl (fun _ => kc1 (w_R3use g3 g4) rfl rfl) ?_
 refine ay ?_
 refine xo rfl (fun _ => kc1 (w_rInt (by omega)) rfl rfl) ?_
 refine ay ?_
 refine xo rfl (fun _ => kc1 (w_R3use g5 g6) rfl rfl) ?_
 refine ay ?_
 refine xo rfl (fun _ => kc1 (w_rInt (by omega)) rfl rfl) ?_
 refine ay ?_
 refine xo rfl (fun _ => kc1 (w_rInt (by omega)) rfl rfl) ?_
 refine ay ?_
 refine xo rfl (fun _ => kc1 (w_rBool) rfl rfl) ?_
 refine ay ?_
 refine xo rfl (fun _ => kc1 (w_rInt (by omega)) rfl rfl) (xm rfl ?_)
 refine xo rfl (fun _ => ok_call rfl (w_rList (m := c.names.length) (q := q0) (by omega) (rc1 _ (by omega))) ⟨⟨_, rfl, Pr.le_trans (andIs_le _ _) (Pr.le_of_eq (by rw [he_k]))⟩, trivial⟩) ?_
 refine xo rfl (fun _ => ok_buildSlice (xs := [.tmp 23, .tmp 26, .tmp 29, .tmp 32, .tmp 35, .tmp 38, .tmp 41, .tmp 44, .tmp 47, .tmp 50, .tmp 52]) (rows := [rowQ qA1, rowQ qA1, rowQ qA1, rowQ qA1, rowQ qA1, rowQ qA1, rowQ qA1, rowQ qA1, rowQ qA1, rowQ qA1, rowQ qA1]) rfl rfl Try.underlying137 sz139 z139 rfl (by decide) ⟨⟨(by exact rfl), VL.le (vl rfl) (Pr.le_trans (agg_le (qs := rowQ qA1) ⟨Pr.le_refl _, Pr.le_refl _, Pr.le_refl _, q0_le, trivial⟩) (agg_cellsP _))⟩, ⟨⟨(by exact rfl), VL.le (vl rfl) (Pr.le_trans (agg_le (qs := rowQ qA1) ⟨Pr.le_refl _, Pr.le_refl _, Pr.le_refl _, q0_le, trivial⟩) (agg_cellsP _))⟩, ⟨⟨(by exact rfl), VL.le (vl rfl) (Pr.le_trans (agg_le (qs := rowQ qA1) ⟨Pr.le_refl _, Pr.le_refl _, Pr.le_refl _, q0_le, trivial⟩) (agg_cellsP _))⟩, ⟨⟨(by exact rfl), VL.le (vl rfl) (agg_cellsP _)⟩, ⟨⟨(by exact rfl), VL.le (vl rfl) (Pr.le_trans (agg_le (qs := rowQ qA1) ⟨Pr.le_refl _, Pr.le_refl _, Pr.le_refl _, q0_le, trivial⟩) (agg_cellsP _))⟩, ⟨⟨(by exact rfl), VL.le (vl rfl) (agg_cellsP _)⟩, ⟨⟨(by exact rfl), VL.le (vl rfl) (Pr.le_trans (agg_le (qs := rowQ qA1) ⟨Pr.le_refl _, Pr.le_refl _, Pr.le_refl _, q0_le, trivial⟩) (agg_cellsP _))⟩, ⟨⟨(by exact rfl), VL.le (vl rfl) (Pr.le_trans (agg_le (qs := rowQ qA1) ⟨Pr.le_refl _, Pr.le_refl _, Pr.le_refl _, q0_le, trivial⟩) (agg_cellsP _))⟩, ⟨⟨(by exact rfl), VL.le (vl rfl) (Pr.le_trans (agg_le (qs := rowQ qA1) ⟨Pr.le_refl _, Pr.le_refl _, Pr.le_refl _, q0_le, trivial⟩) (agg_cellsP _))⟩, ⟨⟨(by exact rfl), VL.le (vl rfl) (Pr.le_trans (agg_le (qs := rowQ qA1) ⟨Pr.le_refl _, Pr.le_refl _, Pr.le_refl _, q0_le, trivial⟩) (agg_cellsP _))⟩, ⟨⟨(by exact rfl), VL.le (vl rfl) (agg_cellsP _)⟩, trivial⟩⟩⟩⟩⟩⟩⟩⟩⟩⟩⟩ (by decide)) ?_
 refine xo rfl (fun _ => ok_call rfl (w_rList (m := 11) (q := qA1) (by omega) (rc2 _ (by omega))) ⟨⟨_, rfl, full_le _ _⟩, trivial⟩) ?_
 refine Cx.ef0 1 rfl rfl (ef_store rfl rfl (vl rfl) (VL.le (vl rfl) (agg_cellsP _)) sz139 rfl (by exact Nat.le_of_ble_eq_true rfl) rfl) ?_
 refine Cx.nil ⟨by kernel_rfl, ?_⟩
 refine FinX.done al2 (Fin.go (wk1 2 rfl (Tr.ret (Fin.retX1 rfl (RVal.cell 1 rfl rfl agg139 sz139 rfl (Pr.le_refl _)) ?_))))
 · exact Pr.le_refl _
theorem w_R3Bytes {c : Crt} (hv : validB c = true) (ht : c.tiny) : Fun Try.prog 63 [agg (rowCr c)] (tup [bytesE 3285282, anyK .i64]) := by
 refine fo Try.func63 rfl ⟨rfl, rfl⟩ fun M0 w0 => ?_
 refine ac ?_
 refine ac ?_
 refine co rfl (kc1 (w_R3Check hv) rfl rfl) ?_
 refine ac ?_
 refine Tr.cn rfl ?_ ?_ <;> intro h1 q1
 exact absurd h1 (by decide)
 refine ac ?_
 refine ac ?_
 refine co rfl (kc1 (w_R3body hv ht) rfl rfl) (co rfl (kc1 (rE2) rfl rfl) ?_)
 refine ac ?_
 refine Tr.ret (Fin.ret2 rfl (OutW.bse _ _) rfl ?_ rfl ?_)
 · exact Pr.le_refl _
 · exact Pr.le_refl _
theorem w_R3Sum {m : Nat} (hm : m ≤ 100000000) : Fun Try.prog 64 [bts m] (sumE) := by
 refine fo Try.func64 rfl ⟨rfl, rfl⟩ fun M0 w0 => ?_
 have hlr : (List.replicate m u8R).length = m := List.length_replicate
 refine ac ?_
 refine ac ?_
 refine ac ?_
 refine Tr.block (Tr.loopw [(0, _)] ⟨ke rfl, trivial⟩ (fun k : Nat => [(4, int ((k : Nat) : Int)), (3, u32R)]) (fun k : Nat => k ≤ ((List.replicate m u8R).length)) (fun k : Nat => ((List.replicate m u8R).length) - k) 0 (Nat.zero_le _) ⟨ke rfl, ⟨_, rfl, ex_in _ (fact_in (by omega) (Pr.le_refl _))⟩, trivial⟩ ?_)
 rintro k hle_k
 refine ac ?_
 refine co rfl (ok_len rfl Try.underlying119 (vl rfl)) ?_
 refine ac ?_
 refine Tr.cn rfl ?_ ?_ <;> intro h1 q1
 have hk_k : k < ((List.replicate m u8R).length) := lt_of_dec h1
 have hkm : k < m := by simpa using hk_k
 refine ac ?_
 refine ac ?_
 refine co rfl (ok_indexAddr rfl Try.underlying119 sz5 (vl rfl) (vl rfl) (by omega) (rep_at hkm)) (co rfl (kl1 rfl one5 rfl) (co rfl (ok_convK rfl Try.underlying5 Try.underlying141 (vl rfl)) (co rfl (ok_bits (by decide) rfl (VL.le (vl rfl) u32_any) (vl rfl)) (co rfl (ok_mulU rfl (vl rfl) (VL.le (vl rfl) (is_anyK _ _))) ?_))))
 refine ac ?_
 refine wk3 0 3 4 rfl ?_
 refine ac ?_
 exact Fin.fam_same (k + 1) ⟨hk_k, by omega⟩ ⟨⟨_, rfl, int_succ k⟩, ke rfl, ke rfl, trivial⟩
 have he_k : k = ((List.replicate m u8R).length) := by have := ge_of_dec h1; omega
 refine ac ?_
 refine ac ?_
 refine co rfl (ok_conv32 rfl Try.underlying141 Try.underlying3 (vl rfl)) ?_
 refine ac ?_
 refine ac ?_
 · exact Pr.le_refl _
theorem w_R3Copy {c : Crt} (hn : c.names.length ≤ 1000) : Fun Try.prog 61 [agg (rowCr c)] (agg (rowCr c)) := by
 refine fo Try.func61 rfl ⟨rfl, rfl⟩ fun M0 w0 => (Tr.seq (Tr.regT ?_))
 refine TO.boxm rfl rfl (by decide) rfl (VL.le (vl rfl) (agg_cellsP _)) (fun b1 => ?_)
 refine TO.alloc rfl rfl (by decide) rfl z91 zo91 (fun b2 => ?_)
 refine ap ?_
 refine ap ?_
 refine TO.pad ?_
 refine TO.efs 0 rfl rfl (by decide) (ef_append rfl rfl (by decide) rfl Try.underlying62 sz9 by9 z9 rfl (by decide) ⟨_, rfl, full_le _ _⟩ (vl rfl) (by simp only [List.length_append, List.length_map, List.length_nil]; unfold maxLen; omega) (by simp only [List.length_append, List.length_map, List.length_nil]; omega) (appR_full (by exact List.Mem.head _) (vl rfl))) (fun v1 => ?_)
 refine ap ?_
 refine ap ?_
 refine Tr.drop 2 (Tr.ret (Fin.retX1 rfl (RVal.cell 1 rfl rfl agg91 sz91 rfl (Pr.le_refl _)) ?_))
 · exact agg_le ⟨Pr.le_refl _, Pr.le_refl _, Pr.le_refl _, Pr.le_refl _, Pr.le_refl _, Pr.le_refl _, Pr.le_refl _, Pr.le_refl _, Pr.le_refl _, Pr.le_refl _, Pr.le_refl _, Pr.le_refl _, Pr.le_trans (andIs_le _ _) (Pr.le_of_eq (by simp)), Pr.le_refl _, Pr.le_refl _, trivial⟩
abbrev sealed (c : Crt) (key s : Int) : Crt := ⟨c.serial, c.issuer, c.subject, c.kalg, c.kbits, c.keyId, c.halg, c.hbits, c.from_, c.to_, c.auth, c.path, c.names, key, s⟩

theorem w_R3Sign {c : Crt} {key : Int} (hv : validB (sealed c 0 0) = true) (ht : (sealed c 0 0).tiny) (hk : 0 ≤ key ∧ key ≤ 2147483648) : Fun Try.prog 40 [agg (rowCr c), int key] (Cp.ex fun s : Int => fact (0 ≤ s ∧ s < 4294967296) (tup [agg (rowCr (sealed c key s)), int 0])) := by
 refine fo Try.func40 rfl ⟨rfl, rfl⟩ fun M0 w0 => ?_
 have hnn : c.names.length ≤ 1000 := by have := (vf_of hv).nm; unfold namesB at this; simp at this; omega
 refine Tr.seq (Tr.regT ?_)
 refine TO.boxm rfl rfl (by decide) rfl (VL.le (vl rfl) (agg_cellsP _)) (fun b1 => ?_)
 refine TO.alloc rfl rfl (by decide) rfl z91 zo91 (fun b2 => ?_)
 refine ap ?_
 refine ap ?_
 refine tp rfl (kc1 (w_R3Copy (c := c) hnn) rfl rfl) ?_
 refine ap ?_
 refine ap ?_
 refine ac ?_
 refine co rfl (kc1 (w_R3Check (c := sealed c 0 0) hv) rfl rfl) ?_
 refine ac ?_
 refine Ch.cs 15 rfl ?_ ?_ <;> intro h1 q1
 exact absurd h1 (by decide)
 refine ac ?_
 refine Ch.cs 19 rfl ?_ ?_ <;> intro h2 q2
 exfalso; have := q2; omega
 refine ac ?_
 refine wk4 1 2 4 22 rfl ?_
 refine Tr.cn rfl ?_ ?_ <;> intro h3 q3
 exfalso; have := q3; omega
 refine ac ?_
 refine ac ?_
 refine co rfl (kc1 (w_R3Bytes (c := sealed c 0 0) hv ht) rfl rfl) ?_
 refine ac ?_
 refine ap ?_
 refine tp rfl (kc1 (Fun.bytesE fun m hm => w_R3Sum (by omega)) rfl rfl) ?_
 refine TO.ex 31 rfl (fun z31 => TO.fact 31 rfl fun hz31 => ?_)
 refine ap ?_
 refine wk2 2 4 rfl ?_
 refine ap ?_
 refine Tr.drop 1 (Tr.ret (Fin.retX2 rfl (RVal.cell 0 rfl rfl agg91 sz91 rfl (Pr.le_refl _)) (RVal.tmp rfl (Pr.le_refl _)) ?_))
 · exact ex_in z31 (fact_in hz31 (Pr.le_refl _))
end Go.Proofs.Ytflodcidhlmaaaa
namespace Go.Proofs.Ytflodcidhlmaaaa
open Go Go.RowKit Cp

abbrev leafC (name : List UInt8) (a b id to key s : Int) : Crt := ⟨id, [114, 111, 111, 116], name, a, b, id, 3, 0, 0, to, false, 0, [name], key, s⟩
abbrev leafI (name : List UInt8) (a b id to key s : Int) : Idn := ⟨a, b, id, [leafC name a b id to key s]⟩
abbrev leafE (name : List UInt8) (a b id to key : Int) : Pr := Cp.ex fun s : Int => fact (0 ≤ s ∧ s < 4294967296) (agg (rowId (leafI name a b id to key s)))
abbrev anyS : Pr := Cp.ex fun l : List UInt8 => str l
abbrev lnkR : List Pr := [anyK .i64, anyK .i64, anyK .i64]
abbrev itemR : List Pr := [anyS, anyK .i64, anyK .i64, (Cp.ex fun m : Nat => slice 3 (List.replicate m lnkR)), anyK .i64]

theorem w_RSA   : Fun Try.prog 17 [] (agg [int 5, int 2048]) := by
 refine fo Try.func17 rfl ⟨rfl, rfl⟩ fun M0 w0 => (Tr.seq (Tr.regT ?_))
 refine TO.alloc rfl rfl (by decide) rfl z51 zo51 (fun b1 => ?_)
 refine ap ?_
 refine ap ?_
 refine Tr.ret (Fin.retX1 rfl (RVal.cell 0 rfl rfl agg51 sz51 rfl (Pr.le_refl _)) ?_)
 · exact Pr.le_refl _
theorem w_Leaf {name : List UInt8} {a b id to key : Int} (hv : validB (leafC name a b id to 0 0) = true) (ht : (leafC name a b id to 0 0).tiny) (hk : 0 ≤ key ∧ key ≤ 2147483648) : Fun Try.prog 25 [str name, agg [int a, int b], int id, int key, int to] (leafE name a b id to key) := by
 refine fo Try.func25 rfl ⟨rfl, rfl⟩ fun M0 w0 => (Tr.seq (Tr.regT (tp rfl (ok_box rfl (VL.le (vl rfl) (agg_cellsP _))) ?_)))
 refine TO.alloc rfl rfl (by decide) rfl z55 zo55 (fun b1 => ?_)
 refine ap ?_
 refine ap ?_
 refine tp rfl (ok_build (rows := [(0, [_]), (1, [_]), (2, [_]), (3, _), (4, [_]), (5, _), (7, [_]), (10, [_])]) rfl bl91 zo91 ⟨⟨rfl, (VL.le (vl rfl) (one_cellsP _))⟩, ⟨⟨rfl, (VL.le (vl rfl) (one_cellsP _))⟩, ⟨⟨rfl, (VL.le (vl rfl) (one_cellsP _))⟩, ⟨⟨rfl, (VL.le (vl rfl) (agg_cellsP _))⟩, ⟨⟨rfl, (VL.le (vl rfl) (one_cellsP _))⟩, ⟨⟨rfl, (VL.le (vl rfl) (agg_cellsP _))⟩, ⟨⟨rfl, (VL.le (vl rfl) (one_cellsP _))⟩, ⟨⟨rfl, ⟨_, rfl, Pr.le_trans (full_le _ _) (one_cellsP _)⟩⟩, trivial⟩⟩⟩⟩⟩⟩⟩⟩ rfl) (TO.re 20 (agg (rowCr (leafC name a b id to 0 0))) rfl (Pr.le_of_eq rfl) ?_)
 refine TO.alloc rfl rfl (by decide) rfl z91 zo91 (fun b2 => ?_)
 refine ap ?_
 refine wk5 2 3 6 10 11 rfl ?_
 refine ap ?_
 refine tp rfl (kc2 (w_R3Sign (c := leafC name a b id to 0 0) hv ht hk) rfl rfl rfl) ?_
 refine TO.ex 24 rfl (fun z24 => TO.fact 24 rfl fun hz24 => ?_)
 refine ap ?_
 refine ap ?_
 refine tp rfl (ok_build (rows := [(0, _), (1, [_]), (2, [_])]) rfl bl55 zo55 ⟨⟨rfl, (VL.le (vl rfl) (agg_cellsP _))⟩, ⟨⟨rfl, (VL.le (vl rfl) (one_cellsP _))⟩, ⟨⟨rfl, ⟨_, rfl, Pr.le_trans (full_le _ _) (one_cellsP _)⟩⟩, trivial⟩⟩⟩ rfl) ?_
 refine ap ?_
 refine Tr.drop 0 (wk1 10 rfl (Tr.ret (Fin.retX1 rfl (RVal.cell 0 rfl rfl agg55 sz55 rfl (Pr.le_refl _)) ?_)))
 · exact ex_in z24 (fact_in hz24 (Pr.le_refl _))
/-- Some text of a list. -/
def wordOf (s : DS) (l : List (List UInt8)) : List UInt8 := (l[(s.val l.length).toNat]?).getD []

theorem w_DWordE {b : Nat} {s : DS} {l : List (List UInt8)} (hl : l ≠ []) (hl2 : l.length ≤ 1000000000) : FunM Try.prog 27 [ptr b 0, txts l] (str (wordOf s l)) (diceS b s) (fun _ => diceS b s.adv) := by
 refine FunM.of Try.func27 rfl rfl (by exact Nat.le_of_ble_eq_true rfl) fun M0 w0 S rs M1 w1 => ?_
 have hl0 : 1 ≤ (l.length : Int) := by have := List.length_pos_iff.2 hl; omega
 have hv := s.val_in hl0
 obtain ⟨x, hx⟩ := at_ (l := l) (k := (s.val l.length).toNat) (by omega)
 refine ac ?_
 refine ap ?_
 refine TO.efc 0 rfl rfl (by decide) (ef_callc rfl rfl (by decide) rfl (w_DNext (by omega) (by omega)) ⟨ke rfl, ke rfl, trivial⟩) (tp rfl (ok_indexAddr rfl Try.underlying62 sz9 (vl rfl) (vl rfl) (by omega) (row_atI hx)) ?_)
 refine ap ?_
 refine Tr.ret (Fin.retY1 [] rfl (RVal.tmp rfl (Pr.le_refl _)) ?_ (fun _ _ _ _ => rfl))
 · refine Pr.le_of_eq ?_; unfold wordOf; rw [hx]; rfl
end Go.Proofs.Ytflodcidhlmaaaa
namespace Go.Proofs.Ytflodcidhlmaaaa
open Go Go.RowKit Cp

abbrev usR : List Pr := [anyK .i64, anyK .i64]
theorem rep_atI {r : List Pr} {m : Nat} {i : Int} (h : 0 ≤ i ∧ i < (m : Nat)) : (List.replicate m r)[i.toNat]? = some r := by rw [List.getElem?_replicate, if_pos (by omega)]

theorem w_Item {b : Nat} {s : DS} {name : List UInt8}  : FunM Try.prog 26 [ptr b 0, str name] (agg itemR) (diceS b s) (fun _ => diceEx 75 b) := by
 refine FunM.of Try.func26 rfl rfl (by exact Nat.le_of_ble_eq_true rfl) fun M0 w0 S rs M1 w1 => ?_
 have hv3 := s.adv.adv.adv.val_in (n := 3) (by omega)
 refine Tr.seq (Tr.regT ?_)
 refine TO.alloc rfl rfl (by decide) rfl z71 zo71 (fun b1 => ?_)
 refine TO.nil (Fin.go (Tr.seq (Tr.regT (tm rfl (tm rfl (TO.efc 1 rfl rfl (by decide) (ef_callc rfl rfl (by decide) rfl (w_DNext (by omega) (by omega)) ⟨ke rfl, ke rfl, trivial⟩) (tp rfl (ki rfl rfl rfl rfl) (tm rfl (TO.efc 1 rfl rfl (by decide) (ef_callc rfl rfl (by decide) rfl (w_DNext (by omega) (by omega)) ⟨ke rfl, ke rfl, trivial⟩) (tp rfl (ki rfl rfl rfl rfl) (tp rfl (ok_build (rows := [(0, [_]), (1, [_]), (2, [_])]) rfl bl71 zo71 ⟨⟨rfl, (VL.le (vl rfl) (one_cellsP _))⟩, ⟨⟨rfl, (VL.le (vl rfl) (one_cellsP _))⟩, ⟨⟨rfl, (VL.le (vl rfl) (one_cellsP _))⟩, trivial⟩⟩⟩ rfl) ?_)))))))))))
 refine TO.alloc rfl rfl (by decide) rfl z71 zo71 (fun b2 => ?_)
 refine TO.store_all 0 rfl rfl rfl (vl rfl) (VL.le (vl rfl) (agg_cellsP _)) rfl sz71 rfl rfl (TO.nil (Fin.go (Tr.seq (Tr.regT (tm rfl (TO.efc 2 rfl rfl (by decide) (ef_callc rfl rfl (by decide) rfl (w_DNext (by omega) (by omega)) ⟨ke rfl, ke rfl, trivial⟩) (tm rfl (TO.nil (Fin.go (wk4 0 4 5 6 rfl (Tr.seq (Tr.seq (Tr.regT ?_)))))))))))))
 refine tm rfl (TO.efc 2 rfl rfl (by decide) (ef_callc rfl rfl (by decide) rfl (w_DNext (by omega) (by omega)) ⟨ke rfl, ke rfl, trivial⟩) ?_)
 refine tp rfl (ok_add rfl (vl rfl) (vl rfl) ?hin) ?_; case hin => unfold InI; omega
 refine tm rfl (TO.nil (Fin.go (Tr.block (Tr.reC 0 [anyS, anyK .i64, anyK .i64, andIs (.slice none 0 0) (slice 3 (List.replicate 0 lnkR)), is (.int .i64 0)] rfl ⟨ex_in _ (Pr.le_refl _), is_anyK _ _, is_anyK _ _, own_nil rfl, Pr.le_refl _, trivial⟩ (Tr.addnil 96 3 (Tr.loopD3V1 [(0, _), (4, _), (5, _)] ⟨ke rfl, ke rfl, ke rfl, trivial⟩ (fun (k : Int) (m : Nat) (s2 : DS) v => [(7, int k), (6, anyK .i64)]) (fun (k : Int) (m : Nat) (s2 : DS) v => Hp M0 w0 S (appRes 96 3 v :: cellsRes true b2 71 [anyS, anyK .i64, anyK .i64, andIs v (slice 3 (List.replicate m lnkR)), is (.int .i64 0)] :: cellsRes true b1 71 (([.string (ByteArray.mk #[]), .int .i64 0, .int .i64 0, .slice none 0 0, .int .i64 0] : List Value).map is) :: diceS b s2 :: extRes M1 w1 :: rs)) (fun (k : Int) (m : Nat) (s2 : DS) => 0 ≤ k ∧ k + m ≤ 3 ∧ 1 ≤ k + m) (fun (k : Int) (m : Nat) (s2 : DS) => k.toNat) (_) (0) (_) (.slice none 0 0) (⟨by omega, by omega, by omega⟩) ⟨ke rfl, ⟨_, rfl, is_anyK _ _⟩, trivial⟩ (fun _ _ h => h) ?_))))))
 rintro k m s2 v ⟨hk0, hk1, hk2⟩
 refine Tr.seq (Tr.seq (Tr.reg0 (cm rfl (co rfl (ki rfl rfl rfl rfl) (Ch.nil (Fin.go ?_))))))
 refine Tr.cn rfl ?_ ?_ <;> intro h1 q1
 have hk3 : 0 < k := of_decide_eq_true h1
 have hv6 := s2.val_in (n := 6) (by omega)
 refine Tr.skip (Fin.go (Tr.seq (Tr.block (Tr.seq (Tr.regT (tp rfl (ok_build (rows := [(0, [_])]) rfl bl51 zo51 ⟨⟨rfl, (VL.le (vl rfl) (one_cellsP _))⟩, trivial⟩ rfl) (tp rfl (ok_build (rows := [(0, [_])]) rfl bl51 zo51 ⟨⟨rfl, (VL.le (vl rfl) (one_cellsP _))⟩, trivial⟩ rfl) (tp rfl (ok_build (rows := [(0, [_]), (1, [_])]) rfl bl51 zo51 ⟨⟨rfl, (VL.le (vl rfl) (one_cellsP _))⟩, ⟨⟨rfl, (VL.le (vl rfl) (one_cellsP _))⟩, trivial⟩⟩ rfl) (tp rfl (ok_build (rows := [(0, [_]), (1, [_])]) rfl bl51 zo51 ⟨⟨rfl, (VL.le (vl rfl) (one_cellsP _))⟩, ⟨⟨rfl, (VL.le (vl rfl) (one_cellsP _))⟩, trivial⟩⟩ rfl) (tp rfl (ok_build (rows := [(0, [_])]) rfl bl51 zo51 ⟨⟨rfl, (VL.le (vl rfl) (one_cellsP _))⟩, trivial⟩ rfl) (tp rfl (ok_build (rows := [(0, [_]), (1, [_])]) rfl bl51 zo51 ⟨⟨rfl, (VL.le (vl rfl) (one_cellsP _))⟩, ⟨⟨rfl, (VL.le (vl rfl) (one_cellsP _))⟩, trivial⟩⟩ rfl) (tp rfl (ok_buildSlice (xs := [.tmp 26, .tmp 27, .tmp 28, .tmp 29, .tmp 30, .tmp 31]) (rows := [usR, usR, usR, usR, usR, usR]) rfl rfl Try.underlying94 sz51 z51 rfl (by decide) ⟨⟨(by exact rfl), VL.le (vl rfl) (Pr.le_trans (agg_le (qs := usR) ⟨is_anyK _ _, is_anyK _ _, trivial⟩) (agg_cellsP _))⟩, ⟨⟨(by exact rfl), VL.le (vl rfl) (Pr.le_trans (agg_le (qs := usR) ⟨is_anyK _ _, is_anyK _ _, trivial⟩) (agg_cellsP _))⟩, ⟨⟨(by exact rfl), VL.le (vl rfl) (Pr.le_trans (agg_le (qs := usR) ⟨is_anyK _ _, is_anyK _ _, trivial⟩) (agg_cellsP _))⟩, ⟨⟨(by exact rfl), VL.le (vl rfl) (Pr.le_trans (agg_le (qs := usR) ⟨is_anyK _ _, is_anyK _ _, trivial⟩) (agg_cellsP _))⟩, ⟨⟨(by exact rfl), VL.le (vl rfl) (Pr.le_trans (agg_le (qs := usR) ⟨is_anyK _ _, is_anyK _ _, trivial⟩) (agg_cellsP _))⟩, ⟨⟨(by exact rfl), VL.le (vl rfl) (Pr.le_trans (agg_le (qs := usR) ⟨is_anyK _ _, is_anyK _ _, trivial⟩) (agg_cellsP _))⟩, trivial⟩⟩⟩⟩⟩⟩ (by decide)) ?_))))))))))))
 refine tm rfl (TO.efc 3 rfl rfl (by decide) (ef_callc rfl rfl (by decide) rfl (w_DNext (by omega) (by omega)) ⟨ke rfl, ke rfl, trivial⟩) ?_)
 refine tp rfl (ok_indexAddr rfl Try.underlying94 sz51 ⟨_, rfl, full_le _ _⟩ (vl rfl) (by omega) (show (List.replicate 6 usR)[_]? = _ from rep_atI hv6)) ?_
 refine tp rfl (ok_loadA rfl agg51 sz51 (vl rfl) rfl rfl) ?_
 refine TO.alloc rfl rfl (by decide) rfl z51 zo51 (fun b3 => ?_)
 refine TO.store_all 0 rfl rfl rfl (vl rfl) (VL.le (vl rfl) (agg_cellsP _)) rfl sz51 rfl rfl (TO.freeze 0 8 rfl rfl (TO.nil (Fin.go (wk6 0 4 5 6 7 8 rfl (Tr.seq (Tr.regT (tp rfl (okp_fieldAddr rfl fo71_3 (vl rfl)) (TO.rd 1 rfl rfl rfl (by decide) (rd_load1 rfl one69 (vl rfl) rfl) (tp rfl (ok_loadA rfl agg51 sz51 (vl rfl) rfl rfl) (tm rfl (tp rfl (ok_build (rows := [(0, _), (1, [_])]) rfl bl96 zo96 ⟨⟨rfl, (VL.le (vl rfl) (agg_cellsP _))⟩, ⟨⟨rfl, (VL.le (vl rfl) (one_cellsP _))⟩, trivial⟩⟩ rfl) (tp rfl (ok_buildSlice (xs := [.tmp 41]) (rows := [lnkR]) rfl rfl Try.underlying69 sz96 z96 rfl (by decide) ⟨⟨(by exact rfl), VL.le (vl rfl) (Pr.le_trans (Pr.le_of_eq (show agg _ = agg lnkR from rfl)) (agg_cellsP _))⟩, trivial⟩ (by decide)) ?_))))))))))))
 refine TO.efs 0 rfl rfl (by decide) (ef_append rfl rfl (by decide) rfl Try.underlying69 sz96 by96 z96 rfl (by decide) ⟨_, rfl, andIs_le _ _⟩ ⟨_, rfl, full_le _ _⟩ (by simp only [List.length_append, List.length_replicate, List.length_cons, List.length_nil]; unfold maxLen; omega) (by simp only [List.length_append, List.length_replicate, List.length_cons, List.length_nil]; omega) (appR_is (by exact List.Mem.head _) ⟨_, rfl, andIs_is _ _⟩)) (fun v1 => ?_)
 refine tp rfl (okp_fieldAddr rfl fo71_3 (vl rfl)) (TO.ef0 1 rfl rfl (ef_store rfl rfl (vl rfl) (VL.le (vl rfl) (one_cellsP _)) sz69 rfl (by exact Nat.le_of_ble_eq_true rfl) rfl) (TO.nil (Fin.go (wk5 0 4 5 6 7 rfl (Tr.regT (tm rfl (tp rfl (ok_addK rfl (vl rfl) (VL.le (vl rfl) (is_anyK _ _))) (tm rfl (tp rfl (ok_buildSlice (xs := [.const (.int .i64 (5)), .const (.int .i64 (30)), .const (.int .i64 (0)), .const (.int .i64 (100))]) (rows := [[_], [_], [_], [_]]) rfl rfl Try.underlying22 sz3 z3 rfl (by decide) ⟨⟨(by exact rfl), (VL.le (vl rfl) (one_cellsP _))⟩, ⟨⟨(by exact rfl), (VL.le (vl rfl) (one_cellsP _))⟩, ⟨⟨(by exact rfl), (VL.le (vl rfl) (one_cellsP _))⟩, ⟨⟨(by exact rfl), (VL.le (vl rfl) (one_cellsP _))⟩, trivial⟩⟩⟩⟩ (by decide)) ?_)))))))))
 refine TO.efc 3 rfl rfl (by decide) (ef_callc rfl rfl (by decide) rfl (w_DOf (l := [5, 30, 0, 100]) (by simp) (by simp)) ⟨ke rfl, ⟨_, rfl, full_le _ _⟩, trivial⟩) ?_
 refine tp rfl (ok_addK rfl (vl rfl) (VL.le (vl rfl) (is_anyK _ _))) (tm rfl (TO.nil (Fin.block (Fin.go (Tr.reg0 (cm rfl (csu rfl rfl rfl rfl (by omega) (cm rfl (Ch.nil (Fin.reC 1 [anyS, anyK .i64, anyK .i64, andIs v1 (slice 3 (List.replicate (m + 1) lnkR)), is (.int .i64 0)] rfl ⟨Pr.le_refl _, Pr.le_refl _, Pr.le_refl _, own_le (by rw [rep_one]), Pr.le_refl _, trivial⟩ (Fin.famD3V1 (k - 1) (m + 1) (_) v1 (⟨⟨by omega, by omega, by omega⟩, by omega⟩) ⟨⟨_, rfl, int_eq (by omega)⟩, ke rfl, ke rfl, ke rfl, ke rfl, trivial⟩ (fun _ _ h => h))))))))))))
 have hk3 : ¬ 0 < k := of_decide_eq_false h1
 refine Tr.exit (Fin.then_exit (Fin.then_exit (Fin.block_here (Fin.go (Tr.seq (Tr.regX mixed [none, some (0, 1, false, 0), none, none, none, none, none, some (0, 3, true, 0), none, none, some (0, 1, true, 0)] (by kernel_rfl) (xo rfl (fun _ => okp_fieldAddr rfl fo71_3 (vl rfl)) (xrd 1 rfl rfl (rd_load1 rfl one69 (vl rfl) rfl) ?_))))))))
 refine xo rfl (fun _ => ok_indexAddr rfl Try.underlying69 sz96 ⟨_, rfl, andIs_le _ _⟩ (vl rfl) (by omega) (rep_at (k := 0) (by omega))) ?_
 refine xo rfl (fun _ => kfa rfl fo96_1 rfl rfl) (xo rfl (fun _ => kl1 rfl one3 rfl) (xm rfl (xo rfl (fun _ => ok_buildSlice (xs := [.const (.int .i64 (50)), .const (.int .i64 (300)), .const (.int .i64 (0)), .const (.int .i64 (3000))]) (rows := [[_], [_], [_], [_]]) rfl rfl Try.underlying22 sz3 z3 rfl (by decide) ⟨⟨(by exact rfl), (VL.le (vl rfl) (one_cellsP _))⟩, ⟨⟨(by exact rfl), (VL.le (vl rfl) (one_cellsP _))⟩, ⟨⟨(by exact rfl), (VL.le (vl rfl) (one_cellsP _))⟩, ⟨⟨(by exact rfl), (VL.le (vl rfl) (one_cellsP _))⟩, trivial⟩⟩⟩⟩ (by decide)) ?_)))
 refine Cx.ef 3 rfl rfl (by decide) (ef_callc rfl rfl (by decide) rfl (w_DOf (l := [50, 300, 0, 3000]) (by simp) (by simp)) ⟨ke rfl, ⟨_, rfl, full_le _ _⟩, trivial⟩) ?_
 refine xo rfl (fun _ => ok_addK rfl (vl rfl) (VL.le (vl rfl) (is_anyK _ _))) (xo rfl (fun _ => okp_fieldAddr rfl fo71_4 (vl rfl)) (Cx.ef0 1 rfl rfl (ef_store rfl rfl (vl rfl) (VL.le (vl rfl) (one_cellsP _)) sz3 rfl (by exact Nat.le_of_ble_eq_true rfl) rfl) ?_))
 refine Cx.nil ⟨rfl, ?_⟩
 refine FinX.done (AllC.cons (AllC.cons (AllC.cons (AllC.cons (AllC.cons (AllC.map _)))))) (Fin.go (wk2 4 5 rfl (Tr.seq (Tr.regT (TO.rd 1 rfl rfl rfl (by decide) (rd_loadA rfl agg71 sz71 (vl rfl) rfl rfl) (TO.store_all 2 rfl rfl rfl (vl rfl) (VL.le (vl rfl) (agg_cellsP _)) rfl sz71 rfl rfl (TO.nil (Fin.go (Tr.ret (Fin.closeD 3 _ rfl rfl (Fin.retY1 [_, _, _] rfl (RVal.cell 2 rfl rfl agg71 sz71 rfl (Pr.le_refl _)) ?_ (fun _ _ _ _ => rfl))))))))))))
 · exact agg_le ⟨Pr.le_refl _, Pr.le_refl _, Pr.le_refl _, Pr.le_trans (andIs_le _ _) (ex_in m (Pr.le_refl _)), Pr.le_refl _, trivial⟩
end Go.Proofs.Ytflodcidhlmaaaa
namespace Go.Proofs.Ytflodcidhlmaaaa
open Go Go.RowKit Cp

def nameL : List (List UInt8) := [[97, 112, 112], [100, 98], [119, 101, 98]]
def optS : List (List Int) := [[10, 8, 2], [8, 2], [2, 10, 8, 3]]
def sOpt (i : Int) : List Int := (optS[i.toNat]?).getD []
theorem sopt_at {i : Int} (h : 0 ≤ i ∧ i < 3) : (optS.map fun l => [ints l])[i.toNat]? = some [ints (sOpt i)] := by
  have hl : i.toNat < optS.length := by show i.toNat < 3; omega
  unfold sOpt
  rw [List.getElem?_map, List.getElem?_eq_getElem hl]; rfl
theorem sopt_mem {i : Int} (h : 0 ≤ i ∧ i < 3) : sOpt i ∈ optS := by
  have hl : i.toNat < optS.length := by show i.toNat < 3; omega
  unfold sOpt
  rw [List.getElem?_eq_getElem hl]; exact List.getElem_mem hl
/-- What such an endpoint is. -/
structure SndE (i : Nat) (e : Ept) : Prop where
  name : nameL[i]? = some e.name
  least : e.least = 1
  most : e.most = 3 ∨ e.most = 4
  suites : e.suites ∈ optS ∨ ∃ l ∈ optS, e.suites = 14 :: l
  ids : ∃ s : Int, (0 ≤ s ∧ s < 4294967296) ∧ e.ids = [leafI e.name 5 2048 (100 + (i : Nat)) 901 1 s]
  anchors : e.anchors = [1]
  hashes : e.hashes = [2, 3]
def SndL (es : List Ept) : Prop := ∀ (i : Nat) e, es[i]? = some e → SndE i e
theorem snd_snoc {es : List Ept} {e : Ept} (h : SndL es) (he : SndE es.length e) : SndL (es ++ [e]) := by
  intro i x hx
  rcases Nat.lt_or_ge i es.length with hi | hi
  · rw [List.getElem?_append_left hi] at hx; exact h i x hx
  · rcases Nat.eq_or_lt_of_le hi with hi | hi
    · subst hi; rw [List.getElem?_append_right (Nat.le_refl _), Nat.sub_self] at hx; simp at hx; subst hx; exact he
    · rw [List.getElem?_eq_none (by simp; omega)] at hx; cases hx
theorem leaf_ok {nm : List UInt8} {k : Nat} (h : nameL[k]? = some nm) {s : Int} (hs : 0 ≤ s ∧ s < 4294967296) {key : Int} (hk : 0 ≤ key ∧ key ≤ 2) : validB (leafC nm 5 2048 (100 + (k : Nat)) 901 key s) = true := by
  have hlt : k < 3 := lt_of_at h
  have hn : named nm = true := by
    have hm := List.mem_of_getElem? h
    revert hm; unfold nameL; intro hm; simp at hm
    rcases hm with rfl | rfl | rfl <;> decide
  refine of_vf ⟨?_, ?_, by show named [114, 111, 111, 116] = true; decide, hn, ?_, by show ofB 5 2048 2 = true; decide +kernel, ?_, ?_, by show ofB 3 0 1 = true; decide +kernel, hk.1, ?_, hs.1, hs.2, by show (0 : Int) ≤ 0; omega, by show (0 : Int) ≤ 901; omega, by show (901 : Int) ≤ 40000; omega, by show (0 : Int) ≤ 0; omega, by show (0 : Int) ≤ 8; omega, .inr rfl⟩
  · show 0 ≤ (100 : Int) + (k : Nat); omega
  · show (100 : Int) + (k : Nat) ≤ _; omega
  · show namesB [nm] = true
    unfold namesB; rw [Bool.and_eq_true]; refine ⟨allI_iff.2 fun j hj => ?_, by simp⟩
    have : j = 0 := by simp at hj; omega
    subst this; unfold nameAt; simp [hn]
  · show 0 ≤ (100 : Int) + (k : Nat); omega
  · show (100 : Int) + (k : Nat) ≤ _; omega
  · show key ≤ _; omega
theorem leaf_tiny {nm : List UInt8} {k : Nat} (h : k < 3) : (leafC nm 5 2048 (100 + (k : Nat)) 901 0 0).tiny :=
  ⟨by show (100 : Int) + (k : Nat) ≤ 40000; omega, by show (100 : Int) + (k : Nat) ≤ 40000; omega, ⟨by show (0 : Int) ≤ 5; omega, by show (5 : Int) ≤ 40000; omega⟩, ⟨by show (0 : Int) ≤ 2048; omega, by show (2048 : Int) ≤ 40000; omega⟩, ⟨by show (0 : Int) ≤ 3; omega, by show (3 : Int) ≤ 40000; omega⟩, ⟨by show (0 : Int) ≤ 0; omega, by show (0 : Int) ≤ 40000; omega⟩⟩
theorem take_get {β : Type} {l : List β} {n k : Nat} {x : β} (h : (l.take n)[k]? = some x) : l[k]? = some x := by
  have hlt := lt_of_at h
  rw [List.length_take] at hlt
  rw [List.getElem?_take, if_pos (by omega)] at h; exact h
theorem sopt_len (i : Int) : (sOpt i).length ≤ 4 := by
  unfold sOpt
  cases h : optS[i.toNat]? with
  | none => show 0 ≤ 4; omega
  | some l =>
    have hm := List.mem_of_getElem? h
    show l.length ≤ 4
    unfold optS at hm; simp at hm
    rcases hm with rfl | rfl | rfl <;> simp
theorem of_334 (s : DS) : s.of [3, 3, 4] = 3 ∨ s.of [3, 3, 4] = 4 := by have := s.of_mem (l := [3, 3, 4]) (by simp); simp at this; exact this
abbrev edR : List Pr := [anyK .i64, anyK .i64]
abbrev sndP (es : List Ept) : Pr := agg [slice 9 (es.map rowEp), (Cp.ex fun m : Nat => slice 2 (List.replicate m edR)), (Cp.ex fun m : Nat => slice 5 (List.replicate m itemR))]

theorem w_Sound {b : Nat} {s : DS}  : FunM Try.prog 8 [ptr b 0] (Cp.ex fun es : List Ept => fact ((2 ≤ es.length ∧ es.length ≤ 3) ∧ SndL es) (sndP es)) (diceS b s) (fun _ => diceEx 75 b) := by
 refine FunM.of Try.func8 rfl rfl (by exact Nat.le_of_ble_eq_true rfl) fun M0 w0 S rs M1 w1 => ?_
 have hv2 := s.val_in (n := 2) (by omega)
 have hnl : (nameL.take (2 + s.val 2).toNat).length = (2 + s.val 2).toNat := by rw [List.length_take]; show min _ 3 = _; omega
 refine Tr.seq (Tr.regT ?_)
 refine TO.alloc rfl rfl (by decide) rfl z29 zo29 (fun b1 => ?_)
 refine TO.nil (Fin.go (Tr.seq (Tr.regT ?_)))
 refine TO.alloc rfl rfl (by decide) rfl z29 zo29 (fun b2 => ?_)
 refine TO.nil (Fin.go (Tr.seq (Tr.regT (tp rfl (ok_buildSlice (xs := [.const (.string ⟨[97, 112, 112].toArray⟩), .const (.string ⟨[100, 98].toArray⟩), .const (.string ⟨[119, 101, 98].toArray⟩)]) (rows := [[_], [_], [_]]) rfl rfl Try.underlying62 sz9 z9 rfl (by decide) ⟨⟨(by exact rfl), (VL.le (vl rfl) (one_cellsP _))⟩, ⟨⟨(by exact rfl), (VL.le (vl rfl) (one_cellsP _))⟩, ⟨⟨(by exact rfl), (VL.le (vl rfl) (one_cellsP _))⟩, trivial⟩⟩⟩ (by decide)) ?_))))
 refine tm rfl (TO.efc 2 rfl rfl (by decide) (ef_callc rfl rfl (by decide) rfl (w_DNext (by omega) (by omega)) ⟨ke rfl, ke rfl, trivial⟩) ?_)
 refine tp rfl (ok_add rfl (vl rfl) (vl rfl) ?hin) ?_; case hin => unfold InI; omega
 refine tp rfl (ok_sliceTo rfl Try.underlying62 sz9 ⟨_, rfl, full_le _ _⟩ (vl rfl) (by omega) (by simp; omega)) ?_
 refine tm rfl (TO.nil (Fin.go (Tr.seq (Tr.seq (Tr.reg0 (cm rfl (co rfl (ok_len rfl Try.underlying62 (vl rfl)) (cm rfl (Ch.nil (Fin.go (Tr.block ?_)))))))))))
 refine Tr.re 16 rfl (Pr.le_of_eq (by show slice 1 (List.take _ (nameL.map fun t => [str t])) = _; rw [← List.map_take]) : Pr.le _ (txts (nameL.take (2 + s.val 2).toNat))) ?_
 refine Tr.re 17 rfl (int_eq (by simp; rfl) : Pr.le _ (int (((nameL.take (2 + s.val 2).toNat).length : Nat) : Int))) ?_
 refine Tr.reC 0 [andIs (.slice none 0 0) (slice 9 (([] : List Ept).map rowEp)), is (.slice none 0 0), is (.slice none 0 0)] rfl ⟨own_nil rfl, Pr.le_refl _, Pr.le_refl _, trivial⟩ (Tr.addnil 35 9 (Tr.loopD3V1 [(0, _), (2, _), (3, _), (4, _), (16, _), (17, _)] ⟨ke rfl, ke rfl, ke rfl, ke rfl, ke rfl, ke rfl, trivial⟩ (fun (k : Nat) (es : List Ept) (s2 : DS) v => [(18, int ((k : Nat) : Int))]) (fun (k : Nat) (es : List Ept) (s2 : DS) v => Hp M0 w0 S (appRes 35 9 v :: cellsRes true b2 29 [andIs v (slice 9 (es.map rowEp)), is (.slice none 0 0), is (.slice none 0 0)] :: cellsRes true b1 29 (([.slice none 0 0, .slice none 0 0, .slice none 0 0] : List Value).map is) :: diceS b s2 :: extRes M1 w1 :: rs)) (fun (k : Nat) (es : List Ept) (s2 : DS) => k ≤ (2 + s.val 2).toNat ∧ es.length = k ∧ SndL es) (fun (k : Nat) (es : List Ept) (s2 : DS) => (2 + s.val 2).toNat - k) (0) ([]) (_) (.slice none 0 0) (⟨by omega, rfl, fun i e h => by simp at h⟩) ⟨ke rfl, trivial⟩ (fun _ _ h => h) ?_))
 rintro k es s2 v ⟨hk1, hk2, hk3⟩
 refine Tr.seq (Tr.reg0 (co rfl (ki rfl rfl rfl rfl) (Ch.nil (Fin.go (Tr.seq ?_)))))
 refine Tr.cn rfl ?_ ?_ <;> intro h1 q1
 have hkn : k < (2 + s.val 2).toNat := by have := Nrm.nrm h1; rw [hnl] at this; omega
 obtain ⟨nm, hnm⟩ := at_ (l := nameL.take (2 + s.val 2).toNat) (k := k) (by omega)
 have hnm2 : nameL[k]? = some nm := take_get hnm
 have hso := sopt_len (s2.adv.val 3)
 have hk3_ : k < 3 := lt_of_at hnm2
 have hvs := s2.adv.val_in (n := 3) (by omega)
 have hof := of_334 s2
 refine Tr.skip (Fin.go (Tr.seq (Tr.block (Tr.seq (Tr.reg0 (cm rfl (co rfl (ok_indexAddr rfl Try.underlying62 sz9 (vl rfl) (vl rfl) (by omega) (row_at hnm)) (co rfl (kl1 rfl one9 rfl) (cm rfl (cm rfl (Ch.nil (Fin.go (Tr.seq (Tr.pad ?_))))))))))))))
 refine Tr.regX mixed [none, none, none, some (0, 4, true, 0), none, none, none, none, none, some (0, 4, true, 0), none, none, none, some (0, 4, true, 0), none, none, none, some (0, 4, true, 0), none, some (0, 0, true, 7), some (7, 0, true, 7)] (by kernel_rfl) (xm rfl (xm rfl (xo rfl (fun _ => ok_buildSlice (xs := [.const (.int .i64 (3)), .const (.int .i64 (3)), .const (.int .i64 (4))]) (rows := [[_], [_], [_]]) rfl rfl Try.underlying22 sz3 z3 rfl (by decide) ⟨⟨(by exact rfl), (VL.le (vl rfl) (one_cellsP _))⟩, ⟨⟨(by exact rfl), (VL.le (vl rfl) (one_cellsP _))⟩, ⟨⟨(by exact rfl), (VL.le (vl rfl) (one_cellsP _))⟩, trivial⟩⟩⟩ (by decide)) ?_)))
 refine Cx.ef 4 rfl rfl (by decide) (ef_callc rfl rfl (by decide) rfl (w_DOf (l := [3, 3, 4]) (by simp) (by simp)) ⟨ke rfl, ⟨_, rfl, full_le _ _⟩, trivial⟩) ?_
 refine xo rfl (fun _ => ok_buildSlice (xs := [.const (.int .i64 (10)), .const (.int .i64 (8)), .const (.int .i64 (2))]) (rows := [[_], [_], [_]]) rfl rfl Try.underlying22 sz3 z3 rfl (by decide) ⟨⟨(by exact rfl), (VL.le (vl rfl) (one_cellsP _))⟩, ⟨⟨(by exact rfl), (VL.le (vl rfl) (one_cellsP _))⟩, ⟨⟨(by exact rfl), (VL.le (vl rfl) (one_cellsP _))⟩, trivial⟩⟩⟩ (by decide)) ?_
 refine xo rfl (fun _ => ok_buildSlice (xs := [.const (.int .i64 (8)), .const (.int .i64 (2))]) (rows := [[_], [_]]) rfl rfl Try.underlying22 sz3 z3 rfl (by decide) ⟨⟨(by exact rfl), (VL.le (vl rfl) (one_cellsP _))⟩, ⟨⟨(by exact rfl), (VL.le (vl rfl) (one_cellsP _))⟩, trivial⟩⟩ (by decide)) ?_
 refine xo rfl (fun _ => ok_buildSlice (xs := [.const (.int .i64 (2)), .const (.int .i64 (10)), .const (.int .i64 (8)), .const (.int .i64 (3))]) (rows := [[_], [_], [_], [_]]) rfl rfl Try.underlying22 sz3 z3 rfl (by decide) ⟨⟨(by exact rfl), (VL.le (vl rfl) (one_cellsP _))⟩, ⟨⟨(by exact rfl), (VL.le (vl rfl) (one_cellsP _))⟩, ⟨⟨(by exact rfl), (VL.le (vl rfl) (one_cellsP _))⟩, ⟨⟨(by exact rfl), (VL.le (vl rfl) (one_cellsP _))⟩, trivial⟩⟩⟩⟩ (by decide)) ?_
 refine xo rfl (fun _ => ok_buildSlice (xs := [.tmp 27, .tmp 28, .tmp 29]) (rows := [[_], [_], [_]]) rfl rfl Try.underlying65 sz22 z22 rfl (by decide) ⟨⟨(by exact rfl), ⟨_, rfl, Pr.le_trans (full_le _ _) (one_cellsP _)⟩⟩, ⟨⟨(by exact rfl), ⟨_, rfl, Pr.le_trans (full_le _ _) (one_cellsP _)⟩⟩, ⟨⟨(by exact rfl), ⟨_, rfl, Pr.le_trans (full_le _ _) (one_cellsP _)⟩⟩, trivial⟩⟩⟩ (by decide)) ?_
 refine xm rfl (Cx.ef 4 rfl rfl (by decide) (ef_callc rfl rfl (by decide) rfl (w_DNext (by omega) (by omega)) ⟨ke rfl, ke rfl, trivial⟩) ?_)
 refine xo rfl (fun _ => ok_indexAddr rfl Try.underlying65 sz22 ⟨_, rfl, full_le _ _⟩ (vl rfl) (by omega) (show (optS.map fun l => [ints l])[_]? = _ from sopt_at hvs)) ?_
 refine xo rfl (fun _ => kl1 rfl one22 rfl) (xm rfl (Cx.ef 4 rfl rfl (by decide) (ef_callc rfl rfl (by decide) rfl (w_DOne (by omega) (by omega)) ⟨ke rfl, ke rfl, trivial⟩) (xo rfl (fun _ => ok_buildSlice (xs := [.const (.int .i64 (1))]) (rows := [[_]]) rfl rfl Try.underlying22 sz3 z3 rfl (by decide) ⟨⟨(by exact rfl), (VL.le (vl rfl) (one_cellsP _))⟩, trivial⟩ (by decide)) ?_)))
 refine xo rfl (fun _ => ok_buildSlice (xs := [.const (.int .i64 (2)), .const (.int .i64 (3))]) (rows := [[_], [_]]) rfl rfl Try.underlying22 sz3 z3 rfl (by decide) ⟨⟨(by exact rfl), (VL.le (vl rfl) (one_cellsP _))⟩, ⟨⟨(by exact rfl), (VL.le (vl rfl) (one_cellsP _))⟩, trivial⟩⟩ (by decide)) ?_
 refine xm rfl (Cx.ef 4 rfl rfl (by decide) (ef_callc rfl rfl (by decide) rfl (w_DOne (by omega) (by omega)) ⟨ke rfl, ke rfl, trivial⟩) (xo rfl (fun _ => ok_build (rows := [(0, [_]), (1, [_]), (2, [_]), (3, [_]), (4, [_]), (6, [_]), (7, [_]), (8, [_])]) rfl bl35 zo35 ⟨⟨rfl, (VL.le (vl rfl) (one_cellsP _))⟩, ⟨⟨rfl, (VL.le (vl rfl) (one_cellsP _))⟩, ⟨⟨rfl, (VL.le (vl rfl) (one_cellsP _))⟩, ⟨⟨rfl, (VL.le (vl rfl) (one_cellsP _))⟩, ⟨⟨rfl, (VL.le (vl rfl) (one_cellsP _))⟩, ⟨⟨rfl, ⟨_, rfl, Pr.le_trans (full_le _ _) (one_cellsP _)⟩⟩, ⟨⟨rfl, ⟨_, rfl, Pr.le_trans (full_le _ _) (one_cellsP _)⟩⟩, ⟨⟨rfl, (VL.le (vl rfl) (one_cellsP _))⟩, trivial⟩⟩⟩⟩⟩⟩⟩⟩ rfl) (Cx.ef 0 rfl rfl (by decide) (ef_allocX rfl rfl (by decide) rfl z35 zo35) (Cx.ef0 0 rfl rfl (ef_storeX rfl rfl rfl rfl (VL.le (vl rfl) (agg_cellsP _)) sz35 rfl rfl) ?_))))
 refine Cx.nil ⟨rfl, ?_⟩
 refine FinX.open_ 0 7 rfl rfl (fun v1 => ?_)
 refine FinX.done (AllC.cons (AllC.cons (AllC.cons (AllC.cons (AllC.cons (AllC.cons (AllC.map _))))))) (Fin.opn 7 0 _ rfl rfl (fun _ => rfl) (fun b3 => ?_))
 refine Fin.go (wk10 0 2 3 4 5 6 7 16 17 18 rfl (Tr.seq (Tr.seq (Tr.reC 0 [str nm, int 1, int (s2.of [3, 3, 4]), ints (sOpt (s2.adv.val 3)), bool (s2.adv.adv.val 2 == 2 - 1), is (.slice none 0 0), ints [1], ints [2, 3], bool (s2.adv.adv.adv.val 3 == 3 - 1)] rfl ⟨Pr.le_refl _, Pr.le_refl _, Pr.le_refl _, Pr.le_refl _, Pr.le_refl _, Pr.le_refl _, Pr.le_refl _, Pr.le_refl _, Pr.le_refl _, trivial⟩ (Tr.reg0 (co rfl (okp_fieldAddr rfl fo35_2 (vl rfl)) (co rfl (ok_rd 0 rfl (rd_load1 rfl one3 (vl rfl) rfl)) (co rfl (ki rfl rfl rfl rfl) (Ch.nil (Fin.go ?_))))))))))
 refine Tr.cn rfl ?_ ?_ <;> intro h2 q2
 refine Tr.regT (tp rfl (ok_buildSlice (xs := [.const (.int .i64 (14))]) (rows := [[_]]) rfl rfl Try.underlying22 sz3 z3 rfl (by decide) ⟨⟨(by exact rfl), (VL.le (vl rfl) (one_cellsP _))⟩, trivial⟩ (by decide)) ?_)
 refine tp rfl (okp_fieldAddr rfl fo35_3 (vl rfl)) (TO.rd 0 rfl rfl rfl (by decide) (rd_load1 rfl one22 (vl rfl) rfl) (TO.pad ?_))
 refine TO.efs 0 rfl rfl (by decide) (ef_append rfl rfl (by decide) rfl Try.underlying22 sz3 by3 z3 rfl (by decide) ⟨_, rfl, full_le _ _⟩ (vl rfl) (by simp only [List.length_append, List.length_replicate, List.length_cons, List.length_nil, List.length_map]; unfold maxLen; omega) (by simp only [List.length_append, List.length_replicate, List.length_cons, List.length_nil, List.length_map]; omega) (appR_full (by exact List.Mem.head _) (vl rfl))) (fun v2 => ?_)
 refine tp rfl (okp_fieldAddr rfl fo35_3 (vl rfl)) (TO.ef0 1 rfl rfl (ef_store rfl rfl (vl rfl) (VL.le (vl rfl) (one_cellsP _)) sz22 rfl (by exact Nat.le_of_ble_eq_true rfl) rfl) (TO.nil (Fin.go (wk10 0 2 3 4 5 6 7 16 17 18 rfl (Tr.seq (Tr.regT (tm rfl (tp rfl (ok_call rfl (w_RSA) trivial) (tm rfl ?_)))))))))
 refine tp rfl (ok_add rfl (vl rfl) (vl rfl) ?hin) ?_; case hin => unfold InI; omega
 refine tp rfl (ok_call rfl (w_Leaf (name := nm) (a := 5) (b := 2048) (id := 100 + (k : Nat)) (to := 901) (key := 1) (leaf_ok hnm2 (by omega) (by omega)) (leaf_tiny (by omega)) (by omega)) ⟨ke rfl, ke rfl, ke rfl, ke rfl, ke rfl, trivial⟩) ?_
 refine TO.ex 54 rfl (fun z54 => TO.fact 54 rfl fun hz54 => ?_)
 refine tp rfl (ok_buildSlice (xs := [.tmp 54]) (rows := [_]) rfl rfl Try.underlying33 sz55 z55 rfl (by decide) ⟨⟨(by exact rfl), (VL.le (vl rfl) (agg_cellsP _))⟩, trivial⟩ (by decide)) ?_
 refine tp rfl (okp_fieldAddr rfl fo35_5 (vl rfl)) (TO.ef0 1 rfl rfl (ef_store rfl rfl (vl rfl) (VL.le (vl rfl) (one_cellsP _)) sz33 rfl (by exact Nat.le_of_ble_eq_true rfl) rfl) (TO.nil (Fin.go (wk8 0 2 3 4 7 16 17 18 rfl (Tr.regT (tp rfl (okp_fieldAddr rfl fo29_0 (vl rfl)) (TO.rd 3 rfl rfl rfl (by decide) (rd_load1 rfl one25 (vl rfl) rfl) (TO.rd 1 rfl rfl rfl (by decide) (rd_loadA rfl agg35 sz35 (vl rfl) rfl rfl) (tp rfl (ok_buildSlice (xs := [.tmp 59]) (rows := [rowEp (⟨nm, 1, s2.of [3, 3, 4], 14 :: sOpt (s2.adv.val 3), (s2.adv.adv.val 2 == 2 - 1), [leafI nm 5 2048 (100 + (k : Nat)) 901 1 z54], [1], [2, 3], (s2.adv.adv.adv.val 3 == 3 - 1)⟩ : Ept)]) rfl rfl Try.underlying25 sz35 z35 rfl (by decide) ⟨⟨(by exact rfl), VL.le (vl rfl) (Pr.le_trans (agg_le (qs := rowEp (⟨nm, 1, s2.of [3, 3, 4], 14 :: sOpt (s2.adv.val 3), (s2.adv.adv.val 2 == 2 - 1), [leafI nm 5 2048 (100 + (k : Nat)) 901 1 z54], [1], [2, 3], (s2.adv.adv.adv.val 3 == 3 - 1)⟩ : Ept)) ⟨Pr.le_refl _, Pr.le_refl _, Pr.le_refl _, Pr.le_trans (andIs_le _ _) (Pr.le_of_eq rfl), Pr.le_refl _, full_le _ _, Pr.le_refl _, Pr.le_refl _, Pr.le_refl _, trivial⟩) (agg_cellsP _))⟩, trivial⟩ (by decide)) ?_)))))))))
 refine TO.efs 2 rfl rfl (by decide) (ef_append rfl rfl (by decide) rfl Try.underlying25 sz35 by35 z35 rfl (by decide) ⟨_, rfl, andIs_le _ _⟩ ⟨_, rfl, full_le _ _⟩ (by simp only [List.length_append, List.length_replicate, List.length_cons, List.length_nil, List.length_map]; unfold maxLen; omega) (by simp only [List.length_append, List.length_replicate, List.length_cons, List.length_nil, List.length_map]; omega) (appR_is (by exact List.Mem.head _) ⟨_, rfl, andIs_is _ _⟩)) (fun v3 => ?_)
 refine tp rfl (okp_fieldAddr rfl fo29_0 (vl rfl)) (TO.ef0 3 rfl rfl (ef_store rfl rfl (vl rfl) (VL.le (vl rfl) (one_cellsP _)) sz25 rfl (by exact Nat.le_of_ble_eq_true rfl) rfl) (TO.nil (Fin.block (Fin.go (Tr.drop 1 (wk7 0 2 3 4 16 17 18 rfl (Tr.reg0 (cad rfl rfl rfl rfl (by omega) (cm rfl (Ch.nil ?_))))))))))
 refine Fin.reC 2 [andIs v3 (slice 9 ((es ++ [(⟨nm, 1, s2.of [3, 3, 4], 14 :: sOpt (s2.adv.val 3), (s2.adv.adv.val 2 == 2 - 1), [leafI nm 5 2048 (100 + (k : Nat)) 901 1 z54], [1], [2, 3], (s2.adv.adv.adv.val 3 == 3 - 1)⟩ : Ept)]).map rowEp)), is (.slice none 0 0), is (.slice none 0 0)] rfl ⟨own_le (by rw [List.map_append]; rfl), Pr.le_refl _, Pr.le_refl _, trivial⟩ ?_
 refine Fin.drop 0 ?_
 exact Fin.famD3V1 (k + 1) (es ++ [(⟨nm, 1, s2.of [3, 3, 4], 14 :: sOpt (s2.adv.val 3), (s2.adv.adv.val 2 == 2 - 1), [leafI nm 5 2048 (100 + (k : Nat)) 901 1 z54], [1], [2, 3], (s2.adv.adv.adv.val 3 == 3 - 1)⟩ : Ept)]) (_) v3 (⟨⟨by omega, by rw [List.length_append, hk2]; rfl, snd_snoc hk3 ⟨by rw [hk2]; exact hnm2, rfl, hof, .inr ⟨_, sopt_mem hvs, rfl⟩, ⟨z54, hz54, by rw [hk2]⟩, rfl, rfl⟩⟩, by omega⟩) ⟨⟨_, rfl, int_succ k⟩, ke rfl, ke rfl, ke rfl, ke rfl, ke rfl, ke rfl, trivial⟩ (fun _ _ h => h)
 refine Tr.skip (Fin.go (Tr.seq (Tr.regT (tm rfl (tp rfl (ok_call rfl (w_RSA) trivial) (tm rfl ?_))))))
 refine tp rfl (ok_add rfl (vl rfl) (vl rfl) ?hin) ?_; case hin => unfold InI; omega
 refine tp rfl (ok_call rfl (w_Leaf (name := nm) (a := 5) (b := 2048) (id := 100 + (k : Nat)) (to := 901) (key := 1) (leaf_ok hnm2 (by omega) (by omega)) (leaf_tiny (by omega)) (by omega)) ⟨ke rfl, ke rfl, ke rfl, ke rfl, ke rfl, trivial⟩) ?_
 refine TO.ex 54 rfl (fun z54 => TO.fact 54 rfl fun hz54 => ?_)
 refine tp rfl (ok_buildSlice (xs := [.tmp 54]) (rows := [_]) rfl rfl Try.underlying33 sz55 z55 rfl (by decide) ⟨⟨(by exact rfl), (VL.le (vl rfl) (agg_cellsP _))⟩, trivial⟩ (by decide)) ?_
 refine tp rfl (okp_fieldAddr rfl fo35_5 (vl rfl)) (TO.ef0 0 rfl rfl (ef_store rfl rfl (vl rfl) (VL.le (vl rfl) (one_cellsP _)) sz33 rfl (by exact Nat.le_of_ble_eq_true rfl) rfl) (TO.nil (Fin.go (wk8 0 2 3 4 7 16 17 18 rfl (Tr.regT (tp rfl (okp_fieldAddr rfl fo29_0 (vl rfl)) (TO.rd 2 rfl rfl rfl (by decide) (rd_load1 rfl one25 (vl rfl) rfl) (TO.rd 0 rfl rfl rfl (by decide) (rd_loadA rfl agg35 sz35 (vl rfl) rfl rfl) (tp rfl (ok_buildSlice (xs := [.tmp 59]) (rows := [rowEp (⟨nm, 1, s2.of [3, 3, 4], sOpt (s2.adv.val 3), (s2.adv.adv.val 2 == 2 - 1), [leafI nm 5 2048 (100 + (k : Nat)) 901 1 z54], [1], [2, 3], (s2.adv.adv.adv.val 3 == 3 - 1)⟩ : Ept)]) rfl rfl Try.underlying25 sz35 z35 rfl (by decide) ⟨⟨(by exact rfl), VL.le (vl rfl) (Pr.le_trans (agg_le (qs := rowEp (⟨nm, 1, s2.of [3, 3, 4], sOpt (s2.adv.val 3), (s2.adv.adv.val 2 == 2 - 1), [leafI nm 5 2048 (100 + (k : Nat)) 901 1 z54], [1], [2, 3], (s2.adv.adv.adv.val 3 == 3 - 1)⟩ : Ept)) ⟨Pr.le_refl _, Pr.le_refl _, Pr.le_refl _, Pr.le_refl _, Pr.le_refl _, full_le _ _, Pr.le_refl _, Pr.le_refl _, Pr.le_refl _, trivial⟩) (agg_cellsP _))⟩, trivial⟩ (by decide)) ?_)))))))))
 refine TO.efs 1 rfl rfl (by decide) (ef_append rfl rfl (by decide) rfl Try.underlying25 sz35 by35 z35 rfl (by decide) ⟨_, rfl, andIs_le _ _⟩ ⟨_, rfl, full_le _ _⟩ (by simp only [List.length_append, List.length_replicate, List.length_cons, List.length_nil, List.length_map]; unfold maxLen; omega) (by simp only [List.length_append, List.length_replicate, List.length_cons, List.length_nil, List.length_map]; omega) (appR_is (by exact List.Mem.head _) ⟨_, rfl, andIs_is _ _⟩)) (fun v4 => ?_)
 refine tp rfl (okp_fieldAddr rfl fo29_0 (vl rfl)) (TO.ef0 2 rfl rfl (ef_store rfl rfl (vl rfl) (VL.le (vl rfl) (one_cellsP _)) sz25 rfl (by exact Nat.le_of_ble_eq_true rfl) rfl) (TO.nil (Fin.block (Fin.go (Tr.drop 0 (wk7 0 2 3 4 16 17 18 rfl (Tr.reg0 (cad rfl rfl rfl rfl (by omega) (cm rfl (Ch.nil ?_))))))))))
 refine Fin.reC 1 [andIs v4 (slice 9 ((es ++ [(⟨nm, 1, s2.of [3, 3, 4], sOpt (s2.adv.val 3), (s2.adv.adv.val 2 == 2 - 1), [leafI nm 5 2048 (100 + (k : Nat)) 901 1 z54], [1], [2, 3], (s2.adv.adv.adv.val 3 == 3 - 1)⟩ : Ept)]).map rowEp)), is (.slice none 0 0), is (.slice none 0 0)] rfl ⟨own_le (by rw [List.map_append]; rfl), Pr.le_refl _, Pr.le_refl _, trivial⟩ ?_
 exact Fin.famD3V1 (k + 1) (es ++ [(⟨nm, 1, s2.of [3, 3, 4], sOpt (s2.adv.val 3), (s2.adv.adv.val 2 == 2 - 1), [leafI nm 5 2048 (100 + (k : Nat)) 901 1 z54], [1], [2, 3], (s2.adv.adv.adv.val 3 == 3 - 1)⟩ : Ept)]) (_) v4 (⟨⟨by omega, by rw [List.length_append, hk2]; rfl, snd_snoc hk3 ⟨by rw [hk2]; exact hnm2, rfl, hof, .inl (sopt_mem hvs), ⟨z54, hz54, by rw [hk2]⟩, rfl, rfl⟩⟩, by omega⟩) ⟨⟨_, rfl, int_succ k⟩, ke rfl, ke rfl, ke rfl, ke rfl, ke rfl, ke rfl, trivial⟩ (fun _ _ h => h)
 have hke : k = (2 + s.val 2).toNat := by have := Nrm.nrm h1; rw [hnl] at this; omega
 refine Tr.exit (Fin.then_exit (Fin.then_exit (Fin.block_here (Fin.go (Tr.seq (Tr.seq (Tr.reC 1 [slice 9 (es.map rowEp), is (.slice none 0 0), is (.slice none 0 0)] rfl ⟨andIs_le _ _, Pr.le_refl _, Pr.le_refl _, trivial⟩ (Tr.drop 0 (Tr.reg0 (cm rfl (co rfl (ok_len rfl Try.underlying62 (vl rfl)) (cm rfl (Ch.nil (Fin.go ?_))))))))))))))
 refine Tr.block ?_
 refine Tr.re 65 rfl (int_eq (by simp; rfl) : Pr.le _ (int (((nameL.take (2 + s.val 2).toNat).length : Nat) : Int))) ?_
 refine Tr.reC 0 [slice 9 (es.map rowEp), andIs (.slice none 0 0) (slice 2 (List.replicate 0 edR)), is (.slice none 0 0)] rfl ⟨Pr.le_refl _, own_nil rfl, Pr.le_refl _, trivial⟩ (Tr.addnil 68 2 (Tr.loopD3V1 [(0, _), (2, _), (3, _), (4, _), (65, _)] ⟨ke rfl, ke rfl, ke rfl, ke rfl, ke rfl, trivial⟩ (fun (i : Nat) (m : Nat) (s3 : DS) w => [(66, int ((i : Nat) : Int))]) (fun (i : Nat) (m : Nat) (s3 : DS) w => Hp M0 w0 S (appRes 68 2 w :: cellsRes true b2 29 [slice 9 (es.map rowEp), andIs w (slice 2 (List.replicate m edR)), is (.slice none 0 0)] :: cellsRes true b1 29 (([.slice none 0 0, .slice none 0 0, .slice none 0 0] : List Value).map is) :: diceS b s3 :: extRes M1 w1 :: rs)) (fun (i : Nat) (m : Nat) (s3 : DS) => i ≤ (2 + s.val 2).toNat ∧ m ≤ 3) (fun (i : Nat) (m : Nat) (s3 : DS) => (2 + s.val 2).toNat - i) (0) (0) (_) (.slice none 0 0) (⟨by omega, by omega⟩) ⟨ke rfl, trivial⟩ (fun _ _ h => h) ?_))
 rintro i m s3 w ⟨hi1, hi2⟩
 refine Tr.seq (Tr.reg0 (co rfl (ki rfl rfl rfl rfl) (Ch.nil (Fin.go (Tr.seq ?_)))))
 refine Tr.cn rfl ?_ ?_ <;> intro h3 q3
 have hin : i < (2 + s.val 2).toNat := by have := Nrm.nrm h3; rw [hnl] at this; omega
 refine Tr.skip (Fin.go (Tr.seq (Tr.block (Tr.seq (Tr.reg0 (cm rfl (cm rfl (Ch.nil (Fin.go (Tr.seq (Tr.reg0 (cm rfl (co rfl (ok_len rfl Try.underlying62 (vl rfl)) ?_)))))))))))))
 refine cm rfl (Ch.nil (Fin.go (Tr.block ?_)))
 refine Tr.re 70 rfl (int_eq (by simp; rfl) : Pr.le _ (int (((nameL.take (2 + s.val 2).toNat).length : Nat) : Int))) ?_
 refine Tr.loopD3V1 [(0, _), (2, _), (3, _), (4, _), (8, _), (65, _), (66, _), (70, _)] ⟨ke rfl, ke rfl, ke rfl, ke rfl, ke rfl, ke rfl, ke rfl, ke rfl, trivial⟩ (fun (j : Nat) (m3 : Nat) (s4 : DS) u => [(71, int ((j : Nat) : Int))]) (fun (j : Nat) (m3 : Nat) (s4 : DS) u => Hp M0 w0 S (appRes 68 2 u :: cellsRes true b2 29 [slice 9 (es.map rowEp), andIs u (slice 2 (List.replicate m3 edR)), is (.slice none 0 0)] :: cellsRes true b1 29 (([.slice none 0 0, .slice none 0 0, .slice none 0 0] : List Value).map is) :: diceS b s4 :: extRes M1 w1 :: rs)) (fun (j : Nat) (m3 : Nat) (s4 : DS) => j ≤ (2 + s.val 2).toNat ∧ m3 ≤ 3) (fun (j : Nat) (m3 : Nat) (s4 : DS) => (2 + s.val 2).toNat - j) (0) (m) (_) w (⟨by omega, by omega⟩) ⟨ke rfl, trivial⟩ (fun _ _ h => h) ?_
 rintro j m3 s4 u ⟨hj1, hj2⟩
 refine Tr.seq (Tr.reg0 (co rfl (ki rfl rfl rfl rfl) (Ch.nil (Fin.go (Tr.seq ?_)))))
 refine Tr.cn rfl ?_ ?_ <;> intro h4 q4
 have hjn : j < (2 + s.val 2).toNat := by have := Nrm.nrm h4; rw [hnl] at this; omega
 have hlm : (List.replicate m3 edR).length = m3 := List.length_replicate
 refine Tr.skip (Fin.go (Tr.seq (Tr.block (Tr.seq (Tr.reg0 (cm rfl (cm rfl (Ch.nil (Fin.go (Tr.seq (Tr.regT (tm rfl (tm rfl ?_)))))))))))))
 refine tp rfl (ki rfl rfl rfl rfl) (tm rfl ?_)
 refine TO.cases 77 rfl (fun h5 => ?_) (fun h5 => ?_)
 have q5 := Nrm.nrm h5
 refine TO.opG rfl rfl rfl h5 rfl (by decide) (ok_move rfl (vl rfl)) (TO.efcG 3 rfl rfl rfl h5 rfl rfl (by decide) (ef_callc rfl rfl (by decide) rfl (w_DNext (by omega) (by omega)) ⟨ke rfl, ke rfl, trivial⟩) (TO.opG rfl rfl rfl h5 rfl (by decide) (ki rfl rfl rfl rfl) (tp rfl (kpt rfl rfl h5 rfl) (tm rfl ?_))))
 refine TO.cases 82 rfl (fun h6 => ?_) (fun h6 => ?_)
 have q6 := Nrm.nrm h6
 refine TO.opG rfl rfl rfl h6 rfl (by decide) (okp_fieldAddr rfl fo29_1 (vl rfl)) (TO.opG rfl rfl rfl h6 rfl (by decide) (ok_rd 1 rfl (rd_load1 rfl one26 (vl rfl) rfl)) (TO.opG rfl rfl rfl h6 rfl (by decide) (ok_len rfl Try.underlying26 ⟨_, rfl, andIs_le _ _⟩) (TO.opG rfl rfl rfl h6 rfl (by decide) (ki rfl rfl rfl rfl) (tp rfl (kpt rfl rfl h6 rfl) (TO.nil (Fin.go (wk11 0 2 3 4 8 9 65 66 70 71 87 rfl ?_)))))))
 refine Tr.cn rfl ?_ ?_ <;> intro h7 q7
 refine Tr.regT (tp rfl (okp_fieldAddr rfl fo29_1 (vl rfl)) (TO.rd 1 rfl rfl rfl (by decide) (rd_load1 rfl one26 (vl rfl) rfl) (tm rfl (tm rfl (tp rfl (ok_build (rows := [(0, [_]), (1, [_])]) rfl bl68 zo68 ⟨⟨rfl, (VL.le (vl rfl) (one_cellsP _))⟩, ⟨⟨rfl, (VL.le (vl rfl) (one_cellsP _))⟩, trivial⟩⟩ rfl) (tp rfl (ok_buildSlice (xs := [.tmp 92]) (rows := [edR]) rfl rfl Try.underlying26 sz68 z68 rfl (by decide) ⟨⟨(by exact rfl), VL.le (vl rfl) (Pr.le_trans (agg_le (qs := edR) ⟨is_anyK _ _, is_anyK _ _, trivial⟩) (agg_cellsP _))⟩, trivial⟩ (by decide)) ?_))))))
 refine TO.efs 0 rfl rfl (by decide) (ef_append rfl rfl (by decide) rfl Try.underlying26 sz68 by68 z68 rfl (by decide) ⟨_, rfl, andIs_le _ _⟩ ⟨_, rfl, full_le _ _⟩ (by simp only [List.length_append, List.length_replicate, List.length_cons, List.length_nil, List.length_map]; unfold maxLen; omega) (by simp only [List.length_append, List.length_replicate, List.length_cons, List.length_nil, List.length_map]; omega) (appR_is (by exact List.Mem.head _) ⟨_, rfl, andIs_is _ _⟩)) (fun v5 => ?_)
 refine tp rfl (okp_fieldAddr rfl fo29_1 (vl rfl)) (TO.ef0 1 rfl rfl (ef_store rfl rfl (vl rfl) (VL.le (vl rfl) (one_cellsP _)) sz26 rfl (by exact Nat.le_of_ble_eq_true rfl) rfl) (TO.nil (Fin.block (Fin.go (wk9 0 2 3 4 8 65 66 70 71 rfl (Tr.reg0 (cad rfl rfl rfl rfl (by omega) (cm rfl (Ch.nil (Fin.reC 1 [slice 9 (es.map rowEp), andIs v5 (slice 2 (List.replicate (m3 + 1) edR)), is (.slice none 0 0)] rfl ⟨Pr.le_refl _, own_le (by rw [rep_one]), Pr.le_refl _, trivial⟩ (Fin.famD3V1 (j + 1) (m3 + 1) (_) v5 (⟨⟨by omega, by omega⟩, by omega⟩) ⟨⟨_, rfl, int_succ j⟩, ke rfl, ke rfl, ke rfl, ke rfl, ke rfl, ke rfl, ke rfl, ke rfl, trivial⟩ (fun _ _ h => h))))))))))))
 refine Tr.skip (Fin.block (Fin.go (Tr.reg0 (cad rfl rfl rfl rfl (by omega) (cm rfl (Ch.nil (Fin.famD3V1 (j + 1) (m3) (_) u (⟨⟨by omega, by omega⟩, by omega⟩) ⟨⟨_, rfl, int_succ j⟩, ke rfl, ke rfl, ke rfl, ke rfl, ke rfl, ke rfl, ke rfl, ke rfl, trivial⟩ (fun _ _ h => h))))))))
 have q6 := Nrm.nrm h6
 iterate 4 refine TO.noG rfl rfl rfl (ne_true h6) rfl (by decide) ?_
 refine tp rfl (kpf rfl rfl h6 rfl) (TO.nil (Fin.go (wk11 0 2 3 4 8 9 65 66 70 71 87 rfl (Tr.cond rfl (fun h => nomatch h) (fun _ => ?_)))))
 refine Tr.skip (Fin.block (Fin.go (Tr.reg0 (cad rfl rfl rfl rfl (by omega) (cm rfl (Ch.nil (Fin.famD3V1 (j + 1) (m3) (_) u (⟨⟨by omega, by omega⟩, by omega⟩) ⟨⟨_, rfl, int_succ j⟩, ke rfl, ke rfl, ke rfl, ke rfl, ke rfl, ke rfl, ke rfl, ke rfl, trivial⟩ (fun _ _ h => h))))))))
 have q5 := Nrm.nrm h5
 refine TO.noG rfl rfl rfl (ne_true h5) rfl (by decide) (TO.noG rfl rfl rfl (ne_true h5) rfl (by decide) (TO.noG rfl rfl rfl (ne_true h5) rfl (by decide) (tp rfl (kpf rfl rfl h5 rfl) (tm rfl ?_))))
 iterate 4 refine TO.noG rfl rfl rfl (ne_true rfl) rfl (by decide) ?_
 refine tp rfl (kpf rfl rfl rfl rfl) (TO.nil (Fin.go (wk11 0 2 3 4 8 9 65 66 70 71 87 rfl (Tr.cond rfl (fun h => nomatch h) (fun _ => ?_)))))
 refine Tr.skip (Fin.block (Fin.go (Tr.reg0 (cad rfl rfl rfl rfl (by omega) (cm rfl (Ch.nil (Fin.famD3V1 (j + 1) (m3) (_) u (⟨⟨by omega, by omega⟩, by omega⟩) ⟨⟨_, rfl, int_succ j⟩, ke rfl, ke rfl, ke rfl, ke rfl, ke rfl, ke rfl, ke rfl, ke rfl, trivial⟩ (fun _ _ h => h))))))))
 have hje : j = (2 + s.val 2).toNat := by have := Nrm.nrm h4; rw [hnl] at this; omega
 refine Tr.exit (Fin.then_exit (Fin.then_exit (Fin.block_here (Fin.block (Fin.go (Tr.reg0 (cad rfl rfl rfl rfl (by omega) (cm rfl (Ch.nil (Fin.famD3V1 (i + 1) (m3) (_) u (⟨⟨by omega, by omega⟩, by omega⟩) ⟨⟨_, rfl, int_succ i⟩, ke rfl, ke rfl, ke rfl, ke rfl, ke rfl, trivial⟩ (fun _ _ h => h)))))))))))
 have hie : i = (2 + s.val 2).toNat := by have := Nrm.nrm h3; rw [hnl] at this; omega
 refine Tr.exit (Fin.then_exit (Fin.then_exit (Fin.block_here (Fin.go (Tr.seq (Tr.seq (Tr.reg0 (co rfl (okp_fieldAddr rfl fo29_1 (vl rfl)) (co rfl (ok_rd 1 rfl (rd_load1 rfl one26 (vl rfl) rfl)) (co rfl (ok_len rfl Try.underlying26 ⟨_, rfl, andIs_le _ _⟩) (co rfl (ki rfl rfl rfl rfl) (Ch.nil (Fin.go ?_)))))))))))))
 refine Tr.cn rfl ?_ ?_ <;> intro h8 q8
 refine Tr.regT (tp rfl (ok_build (rows := [(0, [_]), (1, [_])]) rfl bl68 zo68 ⟨⟨rfl, (VL.le (vl rfl) (one_cellsP _))⟩, ⟨⟨rfl, (VL.le (vl rfl) (one_cellsP _))⟩, trivial⟩⟩ rfl) (tp rfl (ok_buildSlice (xs := [.tmp 102]) (rows := [edR]) rfl rfl Try.underlying26 sz68 z68 rfl (by decide) ⟨⟨(by exact rfl), VL.le (vl rfl) (Pr.le_trans (agg_le (qs := edR) ⟨is_anyK _ _, is_anyK _ _, trivial⟩) (agg_cellsP _))⟩, trivial⟩ (by decide)) ?_))
 refine tp rfl (okp_fieldAddr rfl fo29_1 (vl rfl)) (TO.ef0 1 rfl rfl (ef_store rfl rfl (vl rfl) (VL.le (vl rfl) (one_cellsP _)) sz26 rfl (by exact Nat.le_of_ble_eq_true rfl) rfl) (TO.nil (Fin.go (wk3 0 2 3 rfl (Tr.seq (Tr.seq ?_))))))
 have hv9 := s3.val_in (n := 3) (by omega)
 refine Tr.reC 1 [slice 9 (es.map rowEp), (Cp.ex fun m : Nat => slice 2 (List.replicate m edR)), is (.slice none 0 0)] rfl ⟨Pr.le_refl _, ex_in 1 (full_le _ _), Pr.le_refl _, trivial⟩ (Tr.drop 0 (Tr.regT (tm rfl (TO.efc 2 rfl rfl (by decide) (ef_callc rfl rfl (by decide) rfl (w_DNext (by omega) (by omega)) ⟨ke rfl, ke rfl, trivial⟩) (tm rfl (TO.nil (Fin.go (Tr.block (Tr.reC 0 [slice 9 (es.map rowEp), (Cp.ex fun m : Nat => slice 2 (List.replicate m edR)), andIs (.slice none 0 0) (slice 5 (List.replicate 0 itemR))] rfl ⟨Pr.le_refl _, Pr.le_refl _, own_nil rfl, trivial⟩ (Tr.addnil 71 5 (Tr.loopD3V1 [(0, _), (2, _), (3, _)] ⟨ke rfl, ke rfl, ke rfl, trivial⟩ (fun (q : Int) (mi : Nat) (s5 : DS) x => [(10, int q)]) (fun (q : Int) (mi : Nat) (s5 : DS) x => Hp M0 w0 S (appRes 71 5 x :: cellsRes true b2 29 [slice 9 (es.map rowEp), (Cp.ex fun m : Nat => slice 2 (List.replicate m edR)), andIs x (slice 5 (List.replicate mi itemR))] :: cellsRes true b1 29 (([.slice none 0 0, .slice none 0 0, .slice none 0 0] : List Value).map is) :: diceS b s5 :: extRes M1 w1 :: rs)) (fun (q : Int) (mi : Nat) (s5 : DS) => 0 ≤ q ∧ q + mi ≤ 3) (fun (q : Int) (mi : Nat) (s5 : DS) => q.toNat) (_) (0) (_) (.slice none 0 0) (⟨by omega, by omega⟩) ⟨ke rfl, trivial⟩ (fun _ _ h => h) ?_)))))))))))
 rintro q mi s5 x ⟨hq1, hq2⟩
 refine Tr.seq (Tr.seq (Tr.reg0 (cm rfl (co rfl (ki rfl rfl rfl rfl) (Ch.nil (Fin.go ?_))))))
 refine Tr.cn rfl ?_ ?_ <;> intro h9 q9
 have hq3 : 0 < q := of_decide_eq_true h9
 refine Tr.skip (Fin.go (Tr.seq (Tr.block (Tr.pad (Tr.regX mixed [none, some (0, 2, false, 0), none, none, none, some (0, 4, true, 0), some (0, 4, true, 0), none, some (0, 1, true, 119), none, some (0, 2, true, 119)] (by kernel_rfl) (xo rfl (fun _ => okp_fieldAddr rfl fo29_2 (vl rfl)) (xrd 2 rfl rfl (rd_load1 rfl one27 (vl rfl) rfl) (xm rfl (xm rfl (xo rfl (fun _ => ok_buildSlice (xs := [.const (.string ⟨[98, 97, 99, 107, 117, 112].toArray⟩), .const (.string ⟨[100, 101, 101, 100].toArray⟩)]) (rows := [[_], [_]]) rfl rfl Try.underlying62 sz9 z9 rfl (by decide) ⟨⟨(by exact rfl), (VL.le (vl rfl) (one_cellsP _))⟩, ⟨⟨(by exact rfl), (VL.le (vl rfl) (one_cellsP _))⟩, trivial⟩⟩ (by decide)) ?_))))))))))
 refine Cx.ef 4 rfl rfl (by decide) (ef_callc rfl rfl (by decide) rfl (w_DWordE (l := [[98, 97, 99, 107, 117, 112], [100, 101, 101, 100]]) (by simp) (by simp)) ⟨ke rfl, ⟨_, rfl, full_le _ _⟩, trivial⟩) ?_
 refine Cx.ef 4 rfl rfl (by decide) (ef_callc rfl rfl (by decide) rfl (w_Item) ⟨ke rfl, ke rfl, trivial⟩) (xo rfl (fun _ => ok_buildSlice (xs := [.tmp 117]) (rows := [_]) rfl rfl Try.underlying27 sz71 z71 rfl (by decide) ⟨⟨(by exact rfl), (VL.le (vl rfl) (agg_cellsP _))⟩, trivial⟩ (by decide)) ?_)
 refine Cx.ef 1 rfl rfl (by decide) (ef_append rfl rfl (by decide) rfl Try.underlying27 sz71 by71 z71 rfl (by decide) ⟨_, rfl, andIs_le _ _⟩ ⟨_, rfl, full_le _ _⟩ (by simp only [List.length_append, List.length_replicate, List.length_cons, List.length_nil, List.length_map]; unfold maxLen; omega) (by simp only [List.length_append, List.length_replicate, List.length_cons, List.length_nil, List.length_map]; omega) (appR_is (by exact List.Mem.head _) ⟨_, rfl, andIs_is _ _⟩)) ?_
 refine xo rfl (fun _ => okp_fieldAddr rfl fo29_2 (vl rfl)) (Cx.ef0 2 rfl rfl (ef_storeS rfl rfl rfl (vl rfl) rfl sz27 (by exact Nat.le_of_ble_eq_true rfl)) ?_)
 refine Cx.nil ⟨rfl, ?_⟩
 refine FinX.open2 1 2 119 rfl rfl (by decide) rfl (fun v6 => ?_)
 refine FinX.done (AllC.cons (AllC.cons (AllC.cons (AllC.cons (AllC.cons (AllC.cons (AllC.map _))))))) (Fin.openD 4 rfl (fun s1 => ?_))
 refine Fin.block (Fin.go (Tr.drop 0 (wk4 0 2 3 10 rfl (Tr.reg0 (cm rfl (csu rfl rfl rfl rfl (by omega) (cm rfl (Ch.nil (Fin.reC 1 [slice 9 (es.map rowEp), (Cp.ex fun m : Nat => slice 2 (List.replicate m edR)), andIs v6 (slice 5 (List.replicate (mi + 1) itemR))] rfl ⟨Pr.le_refl _, Pr.le_refl _, own_le (by rw [rep_one]), trivial⟩ (Fin.famD3V1 (q - 1) (mi + 1) (_) v6 (⟨⟨by omega, by omega⟩, by omega⟩) ⟨⟨_, rfl, int_eq (by omega)⟩, ke rfl, ke rfl, ke rfl, trivial⟩ (fun _ _ h => h)))))))))))
 have hq3 : ¬ 0 < q := of_decide_eq_false h9
 refine Tr.exit (Fin.then_exit (Fin.then_exit (Fin.block_here (Fin.go (Tr.seq (Tr.regT (TO.rd 1 rfl rfl rfl (by decide) (rd_loadA rfl agg29 sz29 (vl rfl) rfl rfl) (TO.store_all 2 rfl rfl rfl (vl rfl) (VL.le (vl rfl) (agg_cellsP _)) rfl sz29 rfl rfl (TO.nil (Fin.go (Tr.ret (Fin.closeD 3 _ rfl rfl (Fin.retY1 [_, _, _] rfl (RVal.cell 2 rfl rfl agg29 sz29 rfl (Pr.le_refl _)) ?_ (fun _ _ _ _ => rfl))))))))))))))
 · exact ex_in es (fact_in ⟨⟨by omega, by omega⟩, hk3⟩ (agg_le ⟨Pr.le_refl _, Pr.le_refl _, Pr.le_trans (andIs_le _ _) (ex_in mi (Pr.le_refl _)), trivial⟩))
 refine Tr.skip (Fin.go (Tr.seq (Tr.seq ?_)))
 have hv9 := s3.val_in (n := 3) (by omega)
 refine Tr.reC 1 [slice 9 (es.map rowEp), (Cp.ex fun m : Nat => slice 2 (List.replicate m edR)), is (.slice none 0 0)] rfl ⟨Pr.le_refl _, Pr.le_trans (andIs_le _ _) (ex_in m (Pr.le_refl _)), Pr.le_refl _, trivial⟩ (Tr.drop 0 (Tr.regT (tm rfl (TO.efc 2 rfl rfl (by decide) (ef_callc rfl rfl (by decide) rfl (w_DNext (by omega) (by omega)) ⟨ke rfl, ke rfl, trivial⟩) (tm rfl (TO.nil (Fin.go (wk4 0 2 3 10 rfl (Tr.block (Tr.reC 0 [slice 9 (es.map rowEp), (Cp.ex fun m : Nat => slice 2 (List.replicate m edR)), andIs (.slice none 0 0) (slice 5 (List.replicate 0 itemR))] rfl ⟨Pr.le_refl _, Pr.le_refl _, own_nil rfl, trivial⟩ (Tr.addnil 71 5 (Tr.loopD3V1 [(0, _), (2, _), (3, _)] ⟨ke rfl, ke rfl, ke rfl, trivial⟩ (fun (q : Int) (mi : Nat) (s5 : DS) x => [(10, int q)]) (fun (q : Int) (mi : Nat) (s5 : DS) x => Hp M0 w0 S (appRes 71 5 x :: cellsRes true b2 29 [slice 9 (es.map rowEp), (Cp.ex fun m : Nat => slice 2 (List.replicate m edR)), andIs x (slice 5 (List.replicate mi itemR))] :: cellsRes true b1 29 (([.slice none 0 0, .slice none 0 0, .slice none 0 0] : List Value).map is) :: diceS b s5 :: extRes M1 w1 :: rs)) (fun (q : Int) (mi : Nat) (s5 : DS) => 0 ≤ q ∧ q + mi ≤ 3) (fun (q : Int) (mi : Nat) (s5 : DS) => q.toNat) (_) (0) (_) (.slice none 0 0) (⟨by omega, by omega⟩) ⟨ke rfl, trivial⟩ (fun _ _ h => h) ?_))))))))))))
 rintro q mi s5 x ⟨hq1, hq2⟩
 refine Tr.seq (Tr.seq (Tr.reg0 (cm rfl (co rfl (ki rfl rfl rfl rfl) (Ch.nil (Fin.go ?_))))))
 refine Tr.cn rfl ?_ ?_ <;> intro h10 q10
 have hq3 : 0 < q := of_decide_eq_true h10
 refine Tr.skip (Fin.go (Tr.seq (Tr.block (Tr.pad (Tr.regX mixed [none, some (0, 2, false, 0), none, none, none, some (0, 4, true, 0), some (0, 4, true, 0), none, some (0, 1, true, 119), none, some (0, 2, true, 119)] (by kernel_rfl) (xo rfl (fun _ => okp_fieldAddr rfl fo29_2 (vl rfl)) (xrd 2 rfl rfl (rd_load1 rfl one27 (vl rfl) rfl) (xm rfl (xm rfl (xo rfl (fun _ => ok_buildSlice (xs := [.const (.string ⟨[98, 97, 99, 107, 117, 112].toArray⟩), .const (.string ⟨[100, 101, 101, 100].toArray⟩)]) (rows := [[_], [_]]) rfl rfl Try.underlying62 sz9 z9 rfl (by decide) ⟨⟨(by exact rfl), (VL.le (vl rfl) (one_cellsP _))⟩, ⟨⟨(by exact rfl), (VL.le (vl rfl) (one_cellsP _))⟩, trivial⟩⟩ (by decide)) ?_))))))))))
 refine Cx.ef 4 rfl rfl (by decide) (ef_callc rfl rfl (by decide) rfl (w_DWordE (l := [[98, 97, 99, 107, 117, 112], [100, 101, 101, 100]]) (by simp) (by simp)) ⟨ke rfl, ⟨_, rfl, full_le _ _⟩, trivial⟩) ?_
 refine Cx.ef 4 rfl rfl (by decide) (ef_callc rfl rfl (by decide) rfl (w_Item) ⟨ke rfl, ke rfl, trivial⟩) (xo rfl (fun _ => ok_buildSlice (xs := [.tmp 117]) (rows := [_]) rfl rfl Try.underlying27 sz71 z71 rfl (by decide) ⟨⟨(by exact rfl), (VL.le (vl rfl) (agg_cellsP _))⟩, trivial⟩ (by decide)) ?_)
 refine Cx.ef 1 rfl rfl (by decide) (ef_append rfl rfl (by decide) rfl Try.underlying27 sz71 by71 z71 rfl (by decide) ⟨_, rfl, andIs_le _ _⟩ ⟨_, rfl, full_le _ _⟩ (by simp only [List.length_append, List.length_replicate, List.length_cons, List.length_nil, List.length_map]; unfold maxLen; omega) (by simp only [List.length_append, List.length_replicate, List.length_cons, List.length_nil, List.length_map]; omega) (appR_is (by exact List.Mem.head _) ⟨_, rfl, andIs_is _ _⟩)) ?_
 refine xo rfl (fun _ => okp_fieldAddr rfl fo29_2 (vl rfl)) (Cx.ef0 2 rfl rfl (ef_storeS rfl rfl rfl (vl rfl) rfl sz27 (by exact Nat.le_of_ble_eq_true rfl)) ?_)
 refine Cx.nil ⟨rfl, ?_⟩
 refine FinX.open2 1 2 119 rfl rfl (by decide) rfl (fun v7 => ?_)
 refine FinX.done (AllC.cons (AllC.cons (AllC.cons (AllC.cons (AllC.cons (AllC.cons (AllC.map _))))))) (Fin.openD 4 rfl (fun s2 => ?_))
 refine Fin.block (Fin.go (Tr.drop 0 (wk4 0 2 3 10 rfl (Tr.reg0 (cm rfl (csu rfl rfl rfl rfl (by omega) (cm rfl (Ch.nil (Fin.reC 1 [slice 9 (es.map rowEp), (Cp.ex fun m : Nat => slice 2 (List.replicate m edR)), andIs v7 (slice 5 (List.replicate (mi + 1) itemR))] rfl ⟨Pr.le_refl _, Pr.le_refl _, own_le (by rw [rep_one]), trivial⟩ (Fin.famD3V1 (q - 1) (mi + 1) (_) v7 (⟨⟨by omega, by omega⟩, by omega⟩) ⟨⟨_, rfl, int_eq (by omega)⟩, ke rfl, ke rfl, ke rfl, trivial⟩ (fun _ _ h => h)))))))))))
 have hq3 : ¬ 0 < q := of_decide_eq_false h10
 refine Tr.exit (Fin.then_exit (Fin.then_exit (Fin.block_here (Fin.go (Tr.seq (Tr.regT (TO.rd 1 rfl rfl rfl (by decide) (rd_loadA rfl agg29 sz29 (vl rfl) rfl rfl) (TO.store_all 2 rfl rfl rfl (vl rfl) (VL.le (vl rfl) (agg_cellsP _)) rfl sz29 rfl rfl (TO.nil (Fin.go (Tr.ret (Fin.closeD 3 _ rfl rfl (Fin.retY1 [_, _, _] rfl (RVal.cell 2 rfl rfl agg29 sz29 rfl (Pr.le_refl _)) ?_ (fun _ _ _ _ => rfl))))))))))))))
 · exact ex_in es (fact_in ⟨⟨by omega, by omega⟩, hk3⟩ (agg_le ⟨Pr.le_refl _, Pr.le_refl _, Pr.le_trans (andIs_le _ _) (ex_in mi (Pr.le_refl _)), trivial⟩))
end Go.Proofs.Ytflodcidhlmaaaa
namespace Go.Proofs.Ytflodcidhlmaaaa
open Go Go.RowKit Cp

abbrev sndS : List (List Int) := optS ++ optS.map (14 :: ·)
theorem sndE_suites {i : Nat} {e : Ept} (h : SndE i e) : e.suites ∈ sndS := by
  rcases h.suites with h | ⟨l, h, h2⟩
  · exact List.mem_append_left _ h
  · rw [h2]; exact List.mem_append_right _ (List.mem_map_of_mem h)
theorem sndS_ok : ∀ l ∈ sndS, suitesB l = true ∧ l.length ≤ 5 := by decide +kernel
theorem name_ok : ∀ n ∈ nameL, wordB n = true ∧ n.length ≤ 3 := by decide +kernel
theorem hash_ok : [2, 3].all hashB = true := by decide +kernel
theorem of_rsa2 : ofB 5 2048 2 = true := by decide +kernel
theorem leaf_idB {nm : List UInt8} {k : Nat} {id : Int} (h : nameL[k]? = some nm) (hid : id = 100 + (k : Nat)) {s : Int} (hs : 0 ≤ s ∧ s < 4294967296) : idB (leafI nm 5 2048 id 901 1 s) = true := by
  subst hid
  have hk : k < 3 := lt_of_at h
  have hv := leaf_ok h hs (key := 1) (by omega)
  have hk2 : keyB (100 + (k : Nat)) = true := by unfold keyB; simp; omega
  unfold idB showsB; simp only [of_rsa2, hk2, List.all_cons, List.all_nil, hv]; simp
theorem sndE_ok {i : Nat} {e : Ept} (h : SndE i e) : EptOk e := by
  have hn := name_ok _ (List.mem_of_getElem? h.name)
  have hs := sndS_ok _ (sndE_suites h)
  obtain ⟨s, hs1, hs2⟩ := h.ids
  have hm := h.most; have hl := h.least
  refine ⟨hn.1, by omega, by omega, by omega, hs.1, by rw [hs2]; simp, by rw [h.anchors]; simp, by rw [h.anchors]; decide, by rw [h.hashes]; decide, ?_, by rw [h.anchors]; decide, by rw [h.hashes]; exact hash_ok⟩
  rw [hs2]; simp only [List.all_cons, List.all_nil, leaf_idB h.name rfl hs1, Bool.and_self]
theorem sndE_fits {i : Nat} {e : Ept} (h : SndE i e) : e.fits := by
  have hn := name_ok _ (List.mem_of_getElem? h.name)
  obtain ⟨s, hs1, hs2⟩ := h.ids
  refine ⟨by unfold maxLen; omega, fun x hx c hc => ?_⟩
  rw [hs2] at hx; simp at hx; subst hx; simp at hc; subst hc
  exact ⟨by show 4 ≤ maxLen; unfold maxLen; omega, by show e.name.length ≤ maxLen; unfold maxLen; omega, fun n hn2 => by simp at hn2; subst hn2; unfold maxLen; omega⟩
theorem sndE_small {i : Nat} {e : Ept} (h : SndE i e) : e.small := by
  have hs := sndS_ok _ (sndE_suites h)
  obtain ⟨s, hs1, hs2⟩ := h.ids
  refine ⟨by omega, by rw [h.anchors]; simp, by rw [h.hashes]; simp, by rw [hs2]; simp, fun x hx => ?_⟩
  rw [hs2] at hx; simp at hx; subst hx
  exact ⟨by simp, fun c hc => by simp at hc; subst hc; simp⟩
end Go.Proofs.Ytflodcidhlmaaaa
namespace Go.Proofs.Ytflodcidhlmaaaa
open Go Go.RowKit Cp

end Go.Proofs.Ytflodcidhlmaaaa
namespace Go.Proofs.Ytflodcidhlmaaaa
open Go Go.RowKit Cp

/-- Of some size. -/
structure Ept.sz (e : Ept) (n : Nat) : Prop where
  name : e.name.length ≤ maxLen
  suites : e.suites.length ≤ n
  anchors : e.anchors.length ≤ n
  hashes : e.hashes.length ≤ n
  idl : e.ids.length ≤ n
  ids : ∀ x ∈ e.ids, x.fits ∧ x.small
theorem Ept.sz.fits {e : Ept} {n : Nat} (h : e.sz n) : e.fits := ⟨h.name, fun x hx => (h.ids x hx).1⟩
theorem Ept.sz.small {e : Ept} {n : Nat} (h : e.sz n) (hn : n ≤ 1000000) : e.small := ⟨by have := h.suites; omega, by have := h.anchors; omega, by have := h.hashes; omega, by have := h.idl; omega, fun x hx => (h.ids x hx).2⟩
theorem Ept.sz.le {e : Ept} {n m : Nat} (h : e.sz n) (hn : n ≤ m) : e.sz m := ⟨h.name, Nat.le_trans h.suites hn, Nat.le_trans h.anchors hn, Nat.le_trans h.hashes hn, Nat.le_trans h.idl hn, h.ids⟩
theorem sndE_sz {i : Nat} {e : Ept} (h : SndE i e) : e.sz 5 := by
  have hs := sndS_ok _ (sndE_suites h)
  have h1 := sndE_fits h; have h2 := sndE_small h
  obtain ⟨s, hs1, hs2⟩ := h.ids
  exact ⟨h1.name, hs.2, by rw [h.anchors]; simp, by rw [h.hashes]; simp, by rw [hs2]; simp, fun x hx => ⟨h1.ids x hx, h2.ids x hx⟩⟩
end Go.Proofs.Ytflodcidhlmaaaa
namespace Go.Proofs.Ytflodcidhlmaaaa
open Go Go.RowKit Cp
abbrev epts (l : List Ept) : Pr := slice 9 (l.map rowEp)

end Go.Proofs.Ytflodcidhlmaaaa
namespace Go.Proofs.Ytflodcidhlmaaaa
open Go Go.RowKit Cp

/-- A host. -/
structure Hst where
  ep : Ept
  bef : List Ept
deriving DecidableEq
abbrev rowH (h : Hst) : List Pr := [str h.ep.name, int h.ep.least, int h.ep.most, ints h.ep.suites, bool h.ep.own, idns h.ep.ids, ints h.ep.anchors, ints h.ep.hashes, bool h.ep.fall, epts h.bef]
structure Hst.small (h : Hst) : Prop where
  ep : h.ep.small
  len : h.bef.length ≤ 1000000
  bef : ∀ e ∈ h.bef, e.small
def zeroH : Hst := ⟨zeroEp, []⟩
def backH (h : Hst) : Hst × Int := match h.bef[h.bef.length - 1]? with | some x => (⟨x, h.bef.take (h.bef.length - 1)⟩, 0) | none => (h, 4)
theorem backH_at {h : Hst} {x : Ept} (hx : h.bef[h.bef.length - 1]? = some x) : backH h = (⟨x, h.bef.take (h.bef.length - 1)⟩, 0) := by unfold backH; rw [hx]
def lastN {β : Type} (n : Nat) (l : List β) : List β := l.drop (l.length - n)
def tryH (h : Hst) (to : Ept) (k : Int) : Hst × Bool × Int :=
  if eptB to = false then (h, false, 19) else if to.name ≠ h.ep.name then (h, false, 14) else if ¬ (0 ≤ k ∧ k ≤ 3) then (h, false, 2)
  else (if k = 0 ∨ k = 2 then ⟨to, lastN 24 (h.bef ++ [h.ep])⟩ else h, decide (k = 0 ∨ k = 3), 0)

theorem andIs_mono {v : Value} {p q : Pr} (h : Pr.le p q) : Pr.le (andIs v p) (andIs v q) := fun _ _ _ x => ⟨x.1, h _ _ _ x.2⟩
theorem snocM {β γ : Type} {f : β → γ} {l : List β} {k : Nat} {x : β} (h : l[k]? = some x) : (l.take k).map f ++ [f x] = (l.take (k + 1)).map f := by rw [List.take_add_one, h, List.map_append]; rfl
theorem w_HCopy {h : Hst} (hs : h.small) : Fun Try.prog 29 [agg (rowH h)] (agg (rowH h)) := by
 refine fo Try.func29 rfl ⟨rfl, rfl⟩ fun M0 w0 => ?_
 have hl := hs.len
 refine Tr.seq (Tr.regT (tp rfl (ok_box rfl (VL.le (vl rfl) (agg_cellsP _))) ?_))
 refine TO.alloc rfl rfl (by decide) rfl z37 zo37 (fun b1 => ?_)
 refine ao ?_
 refine ao ?_
 refine tp rfl (kc1 (w_CopyEz hs.ep) rfl rfl) (tp rfl (ok_build (rows := [(0, _)]) rfl bl37 zo37 ⟨⟨rfl, (VL.le (vl rfl) (agg_cellsP _))⟩, trivial⟩ rfl) ?_)
 refine TO.alloc rfl rfl (by decide) rfl z37 zo37 (fun b2 => ?_)
 refine TO.store_all 0 rfl rfl rfl (vl rfl) (VL.le (vl rfl) (agg_cellsP _)) rfl sz37 rfl rfl ?_
 refine ao ?_
 refine ac ?_
 refine Tr.block (Tr.reC 0 [str h.ep.name, int h.ep.least, int h.ep.most, ints h.ep.suites, bool h.ep.own, idns h.ep.ids, ints h.ep.anchors, ints h.ep.hashes, bool h.ep.fall, andIs (.slice none 0 0) (slice 9 ((h.bef.take 0).map rowEp))] rfl ⟨Pr.le_refl _, Pr.le_refl _, Pr.le_refl _, Pr.le_refl _, Pr.le_refl _, Pr.le_refl _, Pr.le_refl _, Pr.le_refl _, Pr.le_refl _, own_nil rfl, trivial⟩ (Tr.addnil 35 9 (Tr.loopV1 [(2, _), (3, _), (11, _), (12, _)] ⟨ke rfl, ke rfl, ke rfl, ke rfl, trivial⟩ (fun k v => [(13, int ((k : Nat) : Int))]) (fun k v => Hp M0 w0 noS ([appRes 35 9 v, cellsRes true b2 37 [str h.ep.name, int h.ep.least, int h.ep.most, ints h.ep.suites, bool h.ep.own, idns h.ep.ids, ints h.ep.anchors, ints h.ep.hashes, bool h.ep.fall, andIs v (slice 9 ((h.bef.take k).map rowEp))], cellsRes true b1 37 (([.string (ByteArray.mk #[]), .int .i64 0, .int .i64 0, .slice none 0 0, .bool false, .slice none 0 0, .slice none 0 0, .slice none 0 0, .bool false, .slice none 0 0] : List Value).map is)])) (fun k : Nat => k ≤ (h.bef).length) (fun k : Nat => (h.bef).length - k) 0 (.slice none 0 0) (Nat.zero_le _) ⟨ke rfl, trivial⟩ (fun _ _ h => h) ?_)))
 rintro k v hle_k
 refine ac ?_
 refine Tr.seq ?_
 refine Tr.cn rfl ?_ ?_ <;> intro h1 q1
 have hk_k : k < (h.bef).length := lt_of_dec h1
 obtain ⟨x, hx_k⟩ := at_ hk_k
 have hxs := hs.bef x (List.mem_of_getElem? hx_k)
 refine ac ?_
 refine Tr.seq (Tr.block (Tr.seq (Tr.regT (tp rfl (ok_indexAddr rfl Try.underlying25 sz35 (vl rfl) (vl rfl) (by omega) (by exact row_at (by assumption))) ?_))))
 refine tp rfl (ok_loadA rfl agg35 sz35 (vl rfl) rfl rfl) ?_
 refine TO.alloc rfl rfl (by decide) rfl z35 zo35 (fun b3 => ?_)
 refine sf 0 5 ⟨rfl, rfl, rfl⟩ rfl rfl rfl rfl ?_
 refine ao ?_
 refine Tr.pad (Tr.rx ?_)
 refine ax ?_
 refine xo rfl (fun _ => kc1 (w_CopyEz hxs) rfl rfl) (xo rfl (fun _ => ok_buildSlice (xs := [.tmp 20]) (rows := [_]) rfl rfl Try.underlying25 sz35 z35 rfl (by decide) ⟨⟨(by exact rfl), (VL.le (vl rfl) (agg_cellsP _))⟩, trivial⟩ (by decide)) ?_)
 refine Cx.ef 1 rfl rfl (by decide) (ef_append rfl rfl (by decide) rfl Try.underlying25 sz35 by35 z35 rfl (by decide) ⟨_, rfl, andIs_le _ _⟩ ⟨_, rfl, full_le _ _⟩ (by simp only [List.length_map, List.length_append, List.length_cons, List.length_nil, List.length_take]; unfold maxLen; omega) (by simp only [List.length_map, List.length_append, List.length_cons, List.length_nil, List.length_take]; omega) (appR_is (by exact List.Mem.head _) ⟨_, rfl, andIs_is _ _⟩)) ?_
 refine xo rfl (fun _ => okp_fieldAddr rfl fo37_1 (vl rfl)) (Cx.ef0 2 rfl rfl (ef_storeS rfl rfl rfl (vl rfl) rfl sz25 (by exact Nat.le_of_ble_eq_true rfl)) ?_)
 refine Cx.nil ⟨by kernel_rfl, ?_⟩
 refine FinX.open2 1 2 22 rfl rfl (by decide) rfl (fun v1 => ?_)
 refine FinX.done al4 ?_
 refine ac ?_
 refine Tr.drop 0 (wk5 2 3 11 12 13 rfl ?_)
 refine ac ?_
 refine Fin.reC 1 [str h.ep.name, int h.ep.least, int h.ep.most, ints h.ep.suites, bool h.ep.own, idns h.ep.ids, ints h.ep.anchors, ints h.ep.hashes, bool h.ep.fall, andIs v1 (slice 9 ((h.bef.take (k + 1)).map rowEp))] rfl ⟨Pr.le_refl _, Pr.le_refl _, Pr.le_refl _, Pr.le_refl _, Pr.le_refl _, Pr.le_refl _, Pr.le_refl _, Pr.le_refl _, Pr.le_refl _, own_le (snocM (f := rowEp) hx_k), trivial⟩ (Fin.famV1 (k + 1) v1 (⟨hk_k, by omega⟩) ⟨⟨_, rfl, int_succ k⟩, ke rfl, ke rfl, ke rfl, ke rfl, trivial⟩ (fun _ _ h => h))
 have he_k : k = (h.bef).length := by have := ge_of_dec h1; omega
 subst he_k
 refine ac ?_
 refine ao ?_
 refine TO.store_all 2 rfl rfl rfl (vl rfl) (VL.le (vl rfl) (agg_cellsP _)) rfl sz37 rfl rfl ?_
 refine ao ?_
 refine Tr.ret (Fin.retX1 rfl (RVal.cell 2 rfl rfl agg37 sz37 rfl (Pr.le_refl _)) ?_)
 · exact agg_le ⟨Pr.le_refl _, Pr.le_refl _, Pr.le_refl _, Pr.le_refl _, Pr.le_refl _, Pr.le_refl _, Pr.le_refl _, Pr.le_refl _, Pr.le_refl _, Pr.le_trans (andIs_le _ _) (Pr.le_of_eq (by rw [List.take_length])), trivial⟩
theorem w_HNew {e : Ept} (hf : e.fits) (hsm : e.small) : Fun Try.prog 10 [agg (rowEp e)] (tup [agg (rowH (if eptB e = true then ⟨e, []⟩ else zeroH)), int (if eptB e = true then 0 else 19)]) := by
 refine fo Try.func10 rfl ⟨rfl, rfl⟩ fun M0 w0 => (Tr.seq (Tr.regT (tp rfl (ok_box rfl (VL.le (vl rfl) (agg_cellsP _))) ?_)))
 refine TO.alloc rfl rfl (by decide) rfl z37 zo37 (fun b1 => ?_)
 refine ap ?_
 refine ac ?_
 refine co rfl (kc1 (w_ECheck hf) rfl rfl) ?_
 refine ac ?_
 refine Tr.cn rfl ?_ ?_ <;> intro h1 q1
 have hne : ¬ eptB e = true := by have := q1; cases h_ : eptB e <;> simp_all
 refine ap ?_
 refine Tr.ret (Fin.then_ret (Fin.retX2 rfl (RVal.cell 0 rfl rfl agg37 sz37 rfl (Pr.le_refl _)) (RVal.tmp rfl (Pr.le_refl _)) ?_))
 refine tup_le ⟨?_, ?_, trivial⟩
 · rw [if_neg hne]; exact agg_le ⟨Pr.le_refl _, Pr.le_refl _, Pr.le_refl _, nil_slice 1, Pr.le_refl _, nil_slice 4, nil_slice 1, nil_slice 1, Pr.le_refl _, nil_slice 9, trivial⟩
 · exact int_eq (by rw [if_neg hne])
 have hce : eptB e = true := by have := q1; cases h_ : eptB e <;> simp_all
 refine ac ?_
 refine ap ?_
 refine tp rfl (ok_call rfl (w_HCopy (h := ⟨e, []⟩) ⟨hsm, by show 0 ≤ _; omega, fun x hx => by cases hx⟩) ⟨⟨_, rfl, agg_le ⟨Pr.le_refl _, Pr.le_refl _, Pr.le_refl _, Pr.le_refl _, Pr.le_refl _, Pr.le_refl _, Pr.le_refl _, Pr.le_refl _, Pr.le_refl _, nil_slice 9, trivial⟩⟩, trivial⟩) ?_
 refine ap ?_
 refine Tr.ret (Fin.retX2 rfl (RVal.cell 0 rfl rfl agg37 sz37 rfl (Pr.le_refl _)) (RVal.tmp rfl (Pr.le_refl _)) ?_)
 refine tup_le ⟨?_, ?_, trivial⟩
 · rw [if_pos hce]; exact Pr.le_refl _
 · exact int_eq (by rw [if_pos hce])
theorem w_fValid {n : Int}  : Fun Try.prog 30 [int n] (bool (decide (0 ≤ n ∧ n ≤ 3))) := by
 refine fo Try.func30 rfl ⟨rfl, rfl⟩ fun M0 w0 => ?_
 refine ac ?_
 refine ac ?_
 refine Ch.cs 5 rfl ?_ ?_ <;> intro h1 q1
 refine ac ?_
 refine ac ?_
 · refine bool_eq ?_; rw [Bool.eq_iff_iff]; simp_all
 refine ac ?_
 refine ac ?_
 · refine bool_eq ?_; rw [Bool.eq_iff_iff]; simp_all; omega
theorem w_fDone {n : Int}  : Fun Try.prog 31 [int n] (bool (decide (n = 0 ∨ n = 2))) := by
 refine fo Try.func31 rfl ⟨rfl, rfl⟩ fun M0 w0 => ?_
 refine ac ?_
 refine ac ?_
 refine Ch.cs 5 rfl ?_ ?_ <;> intro h1 q1
 refine ac ?_
 refine ac ?_
 · refine bool_eq ?_; rw [Bool.eq_iff_iff]; simp_all
 refine ac ?_
 refine ac ?_
 · refine bool_eq ?_; rw [Bool.eq_iff_iff]; simp_all
theorem w_fSays {n : Int}  : Fun Try.prog 32 [int n] (bool (decide (n = 0 ∨ n = 3))) := by
 refine fo Try.func32 rfl ⟨rfl, rfl⟩ fun M0 w0 => ?_
 refine ac ?_
 refine ac ?_
 refine Ch.cs 5 rfl ?_ ?_ <;> intro h1 q1
 refine ac ?_
 refine ac ?_
 · refine bool_eq ?_; rw [Bool.eq_iff_iff]; simp_all
 refine ac ?_
 refine ac ?_
 · refine bool_eq ?_; rw [Bool.eq_iff_iff]; simp_all
theorem w_HBack {h : Hst} (hs : h.small) : Fun Try.prog 12 [agg (rowH h)] (tup [agg (rowH (backH h).1), int (backH h).2]) := by
 refine fo Try.func12 rfl ⟨rfl, rfl⟩ fun M0 w0 => (Tr.seq (Tr.regT (tp rfl (ok_box rfl (VL.le (vl rfl) (agg_cellsP _))) ?_)))
 refine TO.alloc rfl rfl (by decide) rfl z37 zo37 (fun b1 => ?_)
 refine ap ?_
 refine ap ?_
 refine tp rfl (kc1 (w_HCopy hs) rfl rfl) ?_
 refine TO.alloc rfl rfl (by decide) rfl z37 zo37 (fun b2 => ?_)
 refine ap ?_
 refine ac ?_
 refine ac ?_
 refine wk4 2 4 5 12 rfl ?_
 refine Tr.cn rfl ?_ ?_ <;> intro h1 q1
 have hz : h.bef = [] := List.eq_nil_of_length_eq_zero (by have := q1; omega)
 have hb : backH h = (h, 4) := by unfold backH; rw [hz]; rfl
 refine ap ?_
 refine Tr.drop 0 (Tr.ret (Fin.then_ret (Fin.retX2 rfl (RVal.cell 0 rfl rfl agg37 sz37 rfl (Pr.le_refl _)) (RVal.tmp rfl (Pr.le_refl _)) ?_)))
 refine tup_le ⟨?_, ?_, trivial⟩
 · rw [hb]; exact Pr.le_refl _
 · exact int_eq (by rw [hb])
 obtain ⟨x, hx⟩ := at_ (l := h.bef) (k := h.bef.length - 1) (by have := q1; omega)
 have hb := backH_at hx
 have hlt := lt_of_at hx
 have hl := hs.len
 refine ac ?_
 refine Tr.seq (Tr.rx ?_)
 refine ay ?_
 refine xo rfl (fun _ => ok_indexAddr rfl Try.underlying25 sz35 (vl rfl) (vl rfl) (by omega) (row_atI (f := rowEp) (by rw [show (((h.bef.length : Nat) : Int) - 1).toNat = h.bef.length - 1 by omega]; exact hx))) ?_
 refine ay ?_
 refine xo rfl (fun _ => ok_sliceTo rfl Try.underlying25 sz35 (vl rfl) (vl rfl) (by omega) (by simp; omega)) ?_
 refine ay ?_
 refine Cx.nil ⟨by kernel_rfl, ?_⟩
 refine FinX.done al2 (Fin.go (wk2 2 4 rfl ?_))
 refine ap ?_
 refine Tr.drop 0 (Tr.ret (Fin.retX2 rfl (RVal.cell 0 rfl rfl agg37 sz37 rfl (Pr.le_refl _)) (RVal.tmp rfl (Pr.le_refl _)) ?_))
 refine tup_le ⟨?_, ?_, trivial⟩
 · rw [hb]; exact agg_le ⟨Pr.le_refl _, Pr.le_refl _, Pr.le_refl _, Pr.le_refl _, Pr.le_refl _, Pr.le_refl _, Pr.le_refl _, Pr.le_refl _, Pr.le_refl _, Pr.le_of_eq (by show _ = slice 9 ((h.bef.take (h.bef.length - 1)).map rowEp); rw [List.map_take, show (((h.bef.length : Nat) : Int) - 1).toNat = h.bef.length - 1 by omega]), trivial⟩
 · exact int_eq (by rw [hb])
theorem w_HCopyV {h : Hst} (hs : h.small) : FunV Try.prog 29 [agg (rowH h)] (fun x => agg [str h.ep.name, int h.ep.least, int h.ep.most, ints h.ep.suites, bool h.ep.own, idns h.ep.ids, ints h.ep.anchors, ints h.ep.hashes, bool h.ep.fall, andIs x (slice 9 (h.bef.map rowEp))]) (fun x => [appRes 35 9 x]) := by
 refine FunV.of Try.func29 rfl rfl (by exact Nat.le_of_ble_eq_true rfl) fun M0 w0 S rs M1 w1 => ?_
 have hl := hs.len
 refine Tr.seq (Tr.regT (tp rfl (ok_box rfl (VL.le (vl rfl) (agg_cellsP _))) ?_))
 refine TO.alloc rfl rfl (by decide) rfl z37 zo37 (fun b1 => ?_)
 refine ao ?_
 refine ao ?_
 refine tp rfl (kc1 (w_CopyEz hs.ep) rfl rfl) (tp rfl (ok_build (rows := [(0, _)]) rfl bl37 zo37 ⟨⟨rfl, (VL.le (vl rfl) (agg_cellsP _))⟩, trivial⟩ rfl) ?_)
 refine TO.alloc rfl rfl (by decide) rfl z37 zo37 (fun b2 => ?_)
 refine TO.store_all 0 rfl rfl rfl (vl rfl) (VL.le (vl rfl) (agg_cellsP _)) rfl sz37 rfl rfl ?_
 refine ao ?_
 refine ac ?_
 refine Tr.block (Tr.reC 0 [str h.ep.name, int h.ep.least, int h.ep.most, ints h.ep.suites, bool h.ep.own, idns h.ep.ids, ints h.ep.anchors, ints h.ep.hashes, bool h.ep.fall, andIs (.slice none 0 0) (slice 9 ((h.bef.take 0).map rowEp))] rfl ⟨Pr.le_refl _, Pr.le_refl _, Pr.le_refl _, Pr.le_refl _, Pr.le_refl _, Pr.le_refl _, Pr.le_refl _, Pr.le_refl _, Pr.le_refl _, own_nil rfl, trivial⟩ (Tr.addnil 35 9 (Tr.loopV1 [(2, _), (3, _), (11, _), (12, _)] ⟨ke rfl, ke rfl, ke rfl, ke rfl, trivial⟩ (fun k v => [(13, int ((k : Nat) : Int))]) (fun k v => Hp M0 w0 S (appRes 35 9 v :: cellsRes true b2 37 [str h.ep.name, int h.ep.least, int h.ep.most, ints h.ep.suites, bool h.ep.own, idns h.ep.ids, ints h.ep.anchors, ints h.ep.hashes, bool h.ep.fall, andIs v (slice 9 ((h.bef.take k).map rowEp))] :: cellsRes true b1 37 (([.string (ByteArray.mk #[]), .int .i64 0, .int .i64 0, .slice none 0 0, .bool false, .slice none 0 0, .slice none 0 0, .slice none 0 0, .bool false, .slice none 0 0] : List Value).map is) :: extRes M1 w1 :: rs)) (fun k : Nat => k ≤ (h.bef).length) (fun k : Nat => (h.bef).length - k) 0 (.slice none 0 0) (Nat.zero_le _) ⟨ke rfl, trivial⟩ (fun _ _ h => h) ?_)))
 rintro k v hle_k
 refine ac ?_
 refine Tr.seq ?_
 refine Tr.cn rfl ?_ ?_ <;> intro h1 q1
 have hk_k : k < (h.bef).length := lt_of_dec h1
 obtain ⟨x, hx_k⟩ := at_ hk_k
 have hxs := hs.bef x (List.mem_of_getElem? hx_k)
 refine ac ?_
 refine Tr.seq (Tr.block (Tr.seq (Tr.regT (tp rfl (ok_indexAddr rfl Try.underlying25 sz35 (vl rfl) (vl rfl) (by omega) (by exact row_at (by assumption))) ?_))))
 refine tp rfl (ok_loadA rfl agg35 sz35 (vl rfl) rfl rfl) ?_
 refine TO.alloc rfl rfl (by decide) rfl z35 zo35 (fun b3 => ?_)
 refine sf 0 5 ⟨rfl, rfl, rfl⟩ rfl rfl rfl rfl ?_
 refine ao ?_
 refine Tr.pad (Tr.rx ?_)
 refine ax ?_
 refine xo rfl (fun _ => kc1 (w_CopyEz hxs) rfl rfl) (xo rfl (fun _ => ok_buildSlice (xs := [.tmp 20]) (rows := [_]) rfl rfl Try.underlying25 sz35 z35 rfl (by decide) ⟨⟨(by exact rfl), (VL.le (vl rfl) (agg_cellsP _))⟩, trivial⟩ (by decide)) ?_)
 refine Cx.ef 1 rfl rfl (by decide) (ef_append rfl rfl (by decide) rfl Try.underlying25 sz35 by35 z35 rfl (by decide) ⟨_, rfl, andIs_le _ _⟩ ⟨_, rfl, full_le _ _⟩ (by simp only [List.length_map, List.length_append, List.length_cons, List.length_nil, List.length_take]; unfold maxLen; omega) (by simp only [List.length_map, List.length_append, List.length_cons, List.length_nil, List.length_take]; omega) (appR_is (by exact List.Mem.head _) ⟨_, rfl, andIs_is _ _⟩)) ?_
 refine xo rfl (fun _ => okp_fieldAddr rfl fo37_1 (vl rfl)) (Cx.ef0 2 rfl rfl (ef_storeS rfl rfl rfl (vl rfl) rfl sz25 (by exact Nat.le_of_ble_eq_true rfl)) ?_)
 refine Cx.nil ⟨by kernel_rfl, ?_⟩
 refine FinX.open2 1 2 22 rfl rfl (by decide) rfl (fun v1 => ?_)
 refine FinX.done al5 ?_
 refine ac ?_
 refine Tr.drop 0 (wk5 2 3 11 12 13 rfl ?_)
 refine ac ?_
 refine Fin.reC 1 [str h.ep.name, int h.ep.least, int h.ep.most, ints h.ep.suites, bool h.ep.own, idns h.ep.ids, ints h.ep.anchors, ints h.ep.hashes, bool h.ep.fall, andIs v1 (slice 9 ((h.bef.take (k + 1)).map rowEp))] rfl ⟨Pr.le_refl _, Pr.le_refl _, Pr.le_refl _, Pr.le_refl _, Pr.le_refl _, Pr.le_refl _, Pr.le_refl _, Pr.le_refl _, Pr.le_refl _, own_le (snocM (f := rowEp) hx_k), trivial⟩ (Fin.famV1 (k + 1) v1 (⟨hk_k, by omega⟩) ⟨⟨_, rfl, int_succ k⟩, ke rfl, ke rfl, ke rfl, ke rfl, trivial⟩ (fun _ _ h => h))
 have he_k : k = (h.bef).length := by have := ge_of_dec h1; omega
 subst he_k
 refine ac ?_
 refine ao ?_
 refine TO.store_all 2 rfl rfl rfl (vl rfl) (VL.le (vl rfl) (agg_cellsP _)) rfl sz37 rfl rfl ?_
 refine ao ?_
 refine Tr.ret (Fin.drop 1 (Fin.swap01 (Fin.retV v [_] rfl (RVal.cell 0 rfl rfl agg37 sz37 rfl (Pr.le_refl _)) ?_ (List.Perm.refl _))))
 · exact agg_le ⟨Pr.le_refl _, Pr.le_refl _, Pr.le_refl _, Pr.le_refl _, Pr.le_refl _, Pr.le_refl _, Pr.le_refl _, Pr.le_refl _, Pr.le_refl _, andIs_mono (Pr.le_of_eq (by rw [List.take_length])), trivial⟩
theorem w_HTry {h : Hst} {to_ : Ept} {k : Int} (hs : h.small) (hsl : h.bef.length ≤ 900000) (hf : to_.fits) (hsm : to_.small) : Fun Try.prog 11 [agg (rowH h), agg (rowEp to_), int k] (tup [agg (rowH (tryH h to_ k).1), bool (tryH h to_ k).2.1, int (tryH h to_ k).2.2]) := by
 refine fo Try.func11 rfl ⟨rfl, rfl⟩ fun M0 w0 => (Tr.seq (Tr.regT (tp rfl (ok_box rfl (VL.le (vl rfl) (agg_cellsP _))) (tp rfl (ok_box rfl (VL.le (vl rfl) (agg_cellsP _))) ?_))))
 refine TO.alloc rfl rfl (by decide) rfl z37 zo37 (fun b1 => ?_)
 refine ap ?_
 refine ap ?_
 refine TO.callV rfl rfl (by decide) rfl (w_HCopyV hs) ⟨ke rfl, trivial⟩ (fun v1 => ?_)
 refine tm rfl ?_
 refine TO.alloc rfl rfl (by decide) rfl z37 zo37 (fun b2 => ?_)
 refine ap ?_
 refine ac ?_
 refine co rfl (kc1 (w_ECheck hf) rfl rfl) ?_
 refine ac ?_
 refine wk6 3 4 6 9 10 16 rfl ?_
 refine Tr.cn rfl ?_ ?_ <;> intro h1 q1
 have hb : tryH h to_ k = (h, false, 19) := if_pos (by have := q1; cases h_ : eptB to_ <;> simp_all)
 refine ap ?_
 refine Tr.drop 0 (Tr.ret (Fin.block_ret (Fin.then_ret (Fin.retX3 rfl (RVal.cell 1 rfl rfl agg37 sz37 rfl (Pr.le_refl _)) (RVal.tmp rfl (Pr.le_refl _)) (RVal.tmp rfl (Pr.le_refl _)) ?_))))
 refine tup_le ⟨?_, ?_, ?_, trivial⟩
 · rw [hb]; exact agg_le ⟨Pr.le_refl _, Pr.le_refl _, Pr.le_refl _, Pr.le_refl _, Pr.le_refl _, Pr.le_refl _, Pr.le_refl _, Pr.le_refl _, Pr.le_refl _, andIs_le _ _, trivial⟩
 · exact bool_eq (by rw [hb])
 · exact int_eq (by rw [hb])
 have hce : eptB to_ = true := by have := q1; cases h_ : eptB to_ <;> simp_all
 refine ac ?_
 refine Tr.cn rfl ?_ ?_ <;> intro h2 q2
 have hb : tryH h to_ k = (h, false, 14) := by unfold tryH; rw [if_neg (by rw [hce]; decide), if_pos q2]
 refine ap ?_
 refine Tr.drop 0 (wk3 6 7 8 rfl (Tr.ret (Fin.block_ret (Fin.then_ret (Fin.retX3 rfl (RVal.cell 1 rfl rfl agg37 sz37 rfl (Pr.le_refl _)) (RVal.tmp rfl (Pr.le_refl _)) (RVal.tmp rfl (Pr.le_refl _)) ?_)))))
 refine tup_le ⟨?_, ?_, ?_, trivial⟩
 · rw [hb]; exact agg_le ⟨Pr.le_refl _, Pr.le_refl _, Pr.le_refl _, Pr.le_refl _, Pr.le_refl _, Pr.le_refl _, Pr.le_refl _, Pr.le_refl _, Pr.le_refl _, andIs_le _ _, trivial⟩
 · exact bool_eq (by rw [hb])
 · exact int_eq (by rw [hb])
 refine ac ?_
 refine co rfl (kc1 (w_fValid) rfl rfl) ?_
 refine ac ?_
 refine wk5 4 6 9 10 29 rfl ?_
 refine Tr.cn rfl ?_ ?_ <;> intro h3 q3
 have hb : tryH h to_ k = (h, false, 2) := by unfold tryH; rw [if_neg (by rw [hce]; decide), if_neg (fun hh => hh q2), if_pos (by have := q3; simpa using this)]
 refine ap ?_
 refine Tr.drop 0 (Tr.ret (Fin.block_ret (Fin.then_ret (Fin.retX3 rfl (RVal.cell 1 rfl rfl agg37 sz37 rfl (Pr.le_refl _)) (RVal.tmp rfl (Pr.le_refl _)) (RVal.tmp rfl (Pr.le_refl _)) ?_))))
 refine tup_le ⟨?_, ?_, ?_, trivial⟩
 · rw [hb]; exact agg_le ⟨Pr.le_refl _, Pr.le_refl _, Pr.le_refl _, Pr.le_refl _, Pr.le_refl _, Pr.le_refl _, Pr.le_refl _, Pr.le_refl _, Pr.le_refl _, andIs_le _ _, trivial⟩
 · exact bool_eq (by rw [hb])
 · exact int_eq (by rw [hb])
 refine ac ?_
 refine ac ?_
 refine ac ?_
 refine co rfl (ok_callf rfl (vl rfl) (show Fun _ _ ([int k] ++ []) _ from w_fDone) ⟨ke rfl, trivial⟩) ?_
 refine ac ?_
 refine Tr.cn rfl ?_ ?_ <;> intro h4 q4
 have hb : tryH h to_ k = (⟨to_, lastN 24 (h.bef ++ [h.ep])⟩, decide (k = 0 ∨ k = 3), 0) := by unfold tryH; rw [if_neg (by rw [hce]; decide), if_neg (fun hh => hh q2), if_neg (by have := q3; simpa using this), if_pos (by have := q4; simpa using this)]
 refine ap ?_
 refine TO.efs 1 rfl rfl (by decide) (ef_append rfl rfl (by decide) rfl Try.underlying25 sz35 by35 z35 rfl (by decide) ⟨_, rfl, andIs_le _ _⟩ ⟨_, rfl, full_le _ _⟩ (by simp only [List.length_map, List.length_append, List.length_cons, List.length_nil, List.length_take]; unfold maxLen; omega) (by simp only [List.length_map, List.length_append, List.length_cons, List.length_nil, List.length_take]; omega) (appR_is (by exact List.Mem.head _) ⟨_, rfl, andIs_is _ _⟩)) (fun v2 => ?_)
 refine ap ?_
 refine wk5 4 6 9 10 12 rfl (Tr.seq ?_)
 have hll : (h.bef ++ [h.ep]).length = h.bef.length + 1 := by simp
 refine Tr.reC 0 [str h.ep.name, int h.ep.least, int h.ep.most, ints h.ep.suites, bool h.ep.own, idns h.ep.ids, ints h.ep.anchors, ints h.ep.hashes, bool h.ep.fall, andIs v2 (slice 9 ((h.bef ++ [h.ep]).map rowEp))] rfl ⟨Pr.le_refl _, Pr.le_refl _, Pr.le_refl _, Pr.le_refl _, Pr.le_refl _, Pr.le_refl _, Pr.le_refl _, Pr.le_refl _, Pr.le_refl _, andIs_mono (Pr.le_of_eq (by rw [List.map_append]; rfl)), trivial⟩ ?_
 refine ap ?_
 refine tp rfl (ok_lenm rfl Try.underlying25 ⟨_, rfl, andIs_le _ _⟩) ?_
 refine tp rfl (ok_sub rfl (vl rfl) (vl rfl) ?hin) ?_; case hin => unfold InI; omega
 refine tp rfl (ok_max rfl (vl rfl) (vl rfl)) ?_
 refine tp rfl (ok_sliceFrom rfl Try.underlying25 sz35 ⟨_, rfl, andIs_le _ _⟩ (vl rfl) (by omega) (by simp; omega)) ?_
 refine ap ?_
 refine Tr.drop 1 (wk5 4 6 9 10 12 rfl ?_)
 refine ap ?_
 refine tp rfl (ok_call rfl (w_HCopy (h := ⟨to_, []⟩) ⟨hsm, by show 0 ≤ _; omega, fun x hx => by cases hx⟩) ⟨⟨_, rfl, agg_le ⟨Pr.le_refl _, Pr.le_refl _, Pr.le_refl _, Pr.le_refl _, Pr.le_refl _, Pr.le_refl _, Pr.le_refl _, Pr.le_refl _, Pr.le_refl _, nil_slice 9, trivial⟩⟩, trivial⟩) ?_
 refine tp rfl (ok_fieldG (k := 0) rfl (by kernel_rfl) agg35 sz35 (vl rfl) rfl) ?_
 refine ap ?_
 refine Tr.seq (Tr.rx ?_)
 refine ay ?_
 refine xo rfl (fun _ => ok_callf rfl (vl rfl) (show Fun _ _ ([int k] ++ []) _ from w_fSays) ⟨ke rfl, trivial⟩) ?_
 refine ay ?_
 refine Cx.nil ⟨by kernel_rfl, ?_⟩
 refine FinX.done al2 (Fin.go (Tr.drop 0 (wk3 6 7 8 rfl (Tr.ret (Fin.retX3 rfl (RVal.cell 0 rfl rfl agg37 sz37 rfl (Pr.le_refl _)) (RVal.tmp rfl (Pr.le_refl _)) (RVal.tmp rfl (Pr.le_refl _)) ?_)))))
 refine tup_le ⟨?_, ?_, ?_, trivial⟩
 · rw [hb]; exact agg_le ⟨Pr.le_refl _, Pr.le_refl _, Pr.le_refl _, Pr.le_refl _, Pr.le_refl _, Pr.le_refl _, Pr.le_refl _, Pr.le_refl _, Pr.le_refl _, Pr.le_of_eq (by show _ = slice 9 ((lastN 24 (h.bef ++ [h.ep])).map rowEp); unfold lastN; rw [List.map_drop]; congr 2; omega), trivial⟩
 · exact bool_eq (by rw [hb])
 · exact int_eq (by rw [hb])
 have hb : tryH h to_ k = (h, decide (k = 0 ∨ k = 3), 0) := by unfold tryH; rw [if_neg (by rw [hce]; decide), if_neg (fun hh => hh q2), if_neg (by have := q3; simpa using this), if_neg (by have := q4; simpa using this)]
 refine ac ?_
 refine Tr.seq (Tr.rx ?_)
 refine ay ?_
 refine xo rfl (fun _ => ok_callf rfl (vl rfl) (show Fun _ _ ([int k] ++ []) _ from w_fSays) ⟨ke rfl, trivial⟩) ?_
 refine ay ?_
 refine Cx.nil ⟨by kernel_rfl, ?_⟩
 refine FinX.done al3 (Fin.go (Tr.drop 0 (wk3 6 7 8 rfl (Tr.ret (Fin.retX3 rfl (RVal.cell 1 rfl rfl agg37 sz37 rfl (Pr.le_refl _)) (RVal.tmp rfl (Pr.le_refl _)) (RVal.tmp rfl (Pr.le_refl _)) ?_)))))
 refine tup_le ⟨?_, ?_, ?_, trivial⟩
 · rw [hb]; exact agg_le ⟨Pr.le_refl _, Pr.le_refl _, Pr.le_refl _, Pr.le_refl _, Pr.le_refl _, Pr.le_refl _, Pr.le_refl _, Pr.le_refl _, Pr.le_refl _, andIs_le _ _, trivial⟩
 · exact bool_eq (by rw [hb])
 · exact int_eq (by rw [hb])
end Go.Proofs.Ytflodcidhlmaaaa
namespace Go.Proofs.Ytflodcidhlmaaaa
open Go Go.RowKit Cp

theorem hs0 {e : Ept} (h : e.small) : (⟨e, []⟩ : Hst).small := ⟨h, by show 0 ≤ _; omega, fun x hx => by cases hx⟩
theorem w_HNewY {e : Ept} (hf : e.fits) (hsm : e.small) (hce : eptB e = true) : Fun Try.prog 10 [agg (rowEp e)] (tup [agg (rowH ⟨e, []⟩), int 0]) := by
  have := w_HNew hf hsm; rw [if_pos hce, if_pos hce] at this; exact this
theorem w_HNewN {e : Ept} (hf : e.fits) (hsm : e.small) (hce : eptB e = false) : Fun Try.prog 10 [agg (rowEp e)] (tup [agg (rowH zeroH), int 19]) := by
  have := w_HNew hf hsm; rw [if_neg (by rw [hce]; decide), if_neg (by rw [hce]; decide)] at this; exact this
theorem ep0_fits : zeroEp.fits := ⟨by show 0 ≤ _; omega, fun x hx => by cases hx⟩
theorem ep0_small : zeroEp.small := ⟨by show 0 ≤ _; omega, by show 0 ≤ _; omega, by show 0 ≤ _; omega, by show 0 ≤ _; omega, fun x hx => by cases hx⟩
/-- Two endpoints in turn. -/
def epA (a b : Ept) (j : Nat) : Ept := if j % 2 = 0 then a else b
def hostAt (a b : Ept) (k : Nat) : Hst := ⟨epA a b k, lastN 24 ((List.range k).map (epA a b))⟩
theorem lastN_snoc {β : Type} {n : Nat} {l : List β} {x : β} : lastN n (lastN n l ++ [x]) = lastN n (l ++ [x]) := by
  unfold lastN
  rw [List.length_append, List.length_drop, List.length_append]
  by_cases h : l.length ≤ n
  · rw [show l.length - n = 0 by omega]; simp
  · rw [List.drop_append, List.drop_append, List.drop_drop]
    congr 1
    · congr 1; simp; omega
    · congr 1; simp; omega
theorem try_at {a b : Ept} {k : Nat} (hn : b.name = a.name) (ha : eptB a = true) (hb : eptB b = true) : tryH (hostAt a b k) (epA a b (k + 1)) 0 = (hostAt a b (k + 1), true, 0) := by
  have h1 : eptB (epA a b (k + 1)) = true := by unfold epA; split <;> assumption
  have h2 : ∀ j, (epA a b j).name = a.name := fun j => by unfold epA; split <;> first | rfl | exact hn
  unfold tryH
  rw [if_neg (by rw [h1]; decide), if_neg (by rw [h2]; unfold hostAt; rw [h2]; simp), if_neg (by simp), if_pos (by simp)]
  unfold hostAt
  rw [lastN_snoc, List.range_succ, List.map_append]; rfl
theorem lastN_at {a b : Ept} {n i : Nat} (hi : i < min n 24) : (lastN 24 ((List.range n).map (epA a b)))[i]? = some (epA a b (n - min n 24 + i)) := by
  unfold lastN
  rw [List.getElem?_drop, List.getElem?_map, List.length_map, List.length_range, List.getElem?_range (by omega)]
  show some _ = _
  congr 2; omega
theorem lastN_len {a b : Ept} {n : Nat} : (lastN 24 ((List.range n).map (epA a b))).length = min n 24 := by unfold lastN; simp; omega
def backAt (a b : Ept) (n j : Nat) : Hst := ⟨epA a b (n - j), (lastN 24 ((List.range n).map (epA a b))).take (min n 24 - j)⟩
theorem back_zero {a b : Ept} {n : Nat} : hostAt a b n = backAt a b n 0 := by
  unfold hostAt backAt; rw [List.take_of_length_le (by rw [lastN_len]; omega)]; rfl
theorem back_yes {a b : Ept} {n j : Nat} (h : j < min n 24) : backH (backAt a b n j) = (backAt a b n (j + 1), 0) := by
  have hl : (backAt a b n j).bef.length = min n 24 - j := by unfold backAt; rw [List.length_take, lastN_len]; omega
  have hx : (backAt a b n j).bef[(backAt a b n j).bef.length - 1]? = some (epA a b (n - (j + 1))) := by
    rw [hl]; unfold backAt
    rw [List.getElem?_take, if_pos (by omega), lastN_at (by omega)]
    congr 2; omega
  rw [backH_at hx, hl]
  unfold backAt
  rw [List.take_take, show min (min n 24 - j - 1) (min n 24 - j) = min n 24 - (j + 1) by omega]
theorem back_no {a b : Ept} {n j : Nat} (h : min n 24 ≤ j) : backH (backAt a b n j) = (backAt a b n j, 4) := by
  have hl : (backAt a b n j).bef = [] := by unfold backAt; rw [show min n 24 - j = 0 by omega]; rfl
  unfold backH; rw [hl]; rfl
def backG (n j : Nat) : Int := if j < min n 24 then 0 else 4
def backN (a b : Ept) (n j : Nat) : Hst := if j < min n 24 then backAt a b n (j + 1) else backAt a b n j
theorem host_small {a b : Ept} (ha : a.small) (hb : b.small) (k : Nat) : (hostAt a b k).small := by
  have h : ∀ j, (epA a b j).small := fun j => by unfold epA; split <;> assumption
  refine ⟨h _, by show (lastN 24 _).length ≤ _; rw [lastN_len]; omega, fun e he => ?_⟩
  have := List.mem_of_mem_drop he
  simp only [List.mem_map] at this
  obtain ⟨j, _, rfl⟩ := this; exact h j
theorem back_small {a b : Ept} (ha : a.small) (hb : b.small) (n j : Nat) : (backAt a b n j).small := by
  have h := host_small ha hb n
  have h0 : ∀ j, (epA a b j).small := fun j => by unfold epA; split <;> assumption
  exact ⟨h0 _, Nat.le_trans (by show (List.take _ _).length ≤ _; rw [List.length_take]; exact Nat.min_le_right _ _) h.len, fun e he => h.bef e (List.mem_of_mem_take he)⟩
theorem w_tryAt {a b to_ : Ept} {k : Nat} (ht : to_ = epA a b (k + 1)) (hn : b.name = a.name) (ha : eptB a = true) (hb : eptB b = true) (hfa : a.fits) (hfb : b.fits) (hsa : a.small) (hsb : b.small) : Fun Try.prog 11 [agg (rowH (hostAt a b k)), agg (rowEp to_), int 0] (tup [agg (rowH (hostAt a b (k + 1))), bool true, int 0]) := by
  subst ht
  have hf : (epA a b (k + 1)).fits := by unfold epA; split <;> assumption
  have hs : (epA a b (k + 1)).small := by unfold epA; split <;> assumption
  have := w_HTry (h := hostAt a b k) (to_ := epA a b (k + 1)) (k := 0) (host_small hsa hsb k) (by show (lastN 24 _).length ≤ _; rw [lastN_len]; omega) hf hs
  rw [try_at hn ha hb] at this; exact this
theorem w_backAt {a b : Ept} {n j : Nat} (hsa : a.small) (hsb : b.small) : Fun Try.prog 12 [agg (rowH (backAt a b n j))] (tup [agg (rowH (backN a b n j)), int (backG n j)]) := by
  have := w_HBack (back_small hsa hsb n j)
  unfold backN backG
  by_cases h : j < min n 24
  · rw [back_yes h] at this; rw [if_pos h, if_pos h]; exact this
  · rw [back_no (by omega)] at this; rw [if_neg h, if_neg h]; exact this
abbrev eH : Ept := ⟨[97, 112, 112], 1, 3, [], false, [], [], [], false⟩
theorem eH_fits : eH.fits := ⟨by show 3 ≤ maxLen; unfold maxLen; omega, fun x hx => by cases hx⟩
theorem eH_small : eH.small := ⟨by show 0 ≤ _; omega, by show 0 ≤ _; omega, by show 0 ≤ _; omega, by show 0 ≤ _; omega, fun x hx => by cases hx⟩
theorem eH_ok : eptB eH = true := by decide
theorem w_HBack0 {e : Ept} (h : e.small) : Fun Try.prog 12 [agg (rowH ⟨e, []⟩)] (tup [agg (rowH ⟨e, []⟩), int 4]) := w_HBack (hs0 h)

theorem w_awake36   : Fun Try.prog 7 [] (bool true) := by
 refine Fun.of Try.func7 rfl rfl (by exact Nat.le_of_ble_eq_true rfl) fun M0 w0 => ?_
 refine Tr.seq (Tr.reg0 (cm rfl (Ch.nil (Fin.go (Tr.seq (Tr.regT (tp rfl (ok_build (rows := []) rfl bl35 zo35 trivial rfl) (tp rfl (ok_call rfl (w_HNewN ep0_fits ep0_small (by decide)) ⟨⟨_, rfl, agg_le ⟨Pr.le_refl _, Pr.le_refl _, Pr.le_refl _, nil_slice 1, Pr.le_refl _, nil_slice 4, nil_slice 1, nil_slice 1, Pr.le_refl _, trivial⟩⟩, trivial⟩) (tm rfl (tp rfl (ok_extract rfl (vl rfl) rfl) (tp rfl (ok_extract rfl (vl rfl) rfl) ?_)))))))))))
 refine TO.alloc rfl rfl (by decide) rfl z37 zo37 (fun b1 => ?_)
 refine TO.store_all 0 rfl rfl rfl (vl rfl) (VL.le (vl rfl) (agg_cellsP _)) rfl sz37 rfl rfl (TO.freeze 0 1 rfl rfl (tm rfl (TO.nil (Fin.go (Tr.seq (Tr.regT (tp rfl (ok_build (rows := [(0, [_]), (1, [_]), (2, [_])]) rfl bl35 zo35 ⟨⟨rfl, (VL.le (vl rfl) (one_cellsP _))⟩, ⟨⟨rfl, (VL.le (vl rfl) (one_cellsP _))⟩, ⟨⟨rfl, (VL.le (vl rfl) (one_cellsP _))⟩, trivial⟩⟩⟩ rfl) (tp rfl (ok_call rfl (w_HNewY eH_fits eH_small eH_ok) ⟨⟨_, rfl, agg_le ⟨Pr.le_refl _, Pr.le_refl _, Pr.le_refl _, nil_slice 1, Pr.le_refl _, nil_slice 4, nil_slice 1, nil_slice 1, Pr.le_refl _, trivial⟩⟩, trivial⟩) (tm rfl (tp rfl (ok_extract rfl (vl rfl) rfl) (tp rfl (ok_extract rfl (vl rfl) rfl) ?_)))))))))))
 refine TO.alloc rfl rfl (by decide) rfl z37 zo37 (fun b2 => ?_)
 refine TO.store_all 0 rfl rfl rfl (vl rfl) (VL.le (vl rfl) (agg_cellsP _)) rfl sz37 rfl rfl (TO.freeze 0 3 rfl rfl (tm rfl (TO.nil (Fin.go (wk3 2 3 4 rfl (Tr.seq (Tr.regT (tp rfl (ok_loadA rfl agg37 sz37 (vl rfl) rfl rfl) (tp rfl (ok_call rfl (w_HBack0 eH_small) ⟨ke rfl, trivial⟩) (tm rfl (tp rfl (ok_extract rfl (vl rfl) rfl) (tp rfl (ok_extract rfl (vl rfl) rfl) ?_))))))))))))
 refine TO.alloc rfl rfl (by decide) rfl z37 zo37 (fun b3 => ?_)
 refine TO.store_all 0 rfl rfl rfl (vl rfl) (VL.le (vl rfl) (agg_cellsP _)) rfl sz37 rfl rfl (TO.freeze 0 5 rfl rfl (tm rfl (TO.nil (Fin.go (Tr.seq (Tr.reg0 (cm rfl (co rfl (ki rfl rfl rfl rfl) (cm rfl ?_)))))))))
 refine Ch.cs 24 rfl ?_ ?_ <;> intro h1 q1
 refine cym h1 rfl (cy h1 rfl (ki rfl rfl rfl rfl) (co rfl (kpt rfl rfl h1 rfl) (cm rfl ?_)))
 refine Ch.cs 28 rfl ?_ ?_ <;> intro h2 q2
 refine cy h2 rfl (kfa rfl fo37_0 rfl rfl) (cy h2 rfl (kfa rfl fo35_0 rfl rfl) (cy h2 rfl (kl1 rfl one9 rfl) (cy h2 rfl (ok_eqs rfl (vl rfl) (vl rfl)) (co rfl (kpt rfl rfl h2 rfl) (cm rfl ?_)))))
 refine Ch.cs 34 rfl ?_ ?_ <;> intro h3 q3
 refine cym h3 rfl (cy h3 rfl (ki rfl rfl rfl rfl) (co rfl (kpt rfl rfl h3 rfl) (cm rfl (Ch.nil (Fin.go (wk1 0 rfl (Tr.ret (Fin.ret1 rfl (OutW.bse _ _) rfl ?_))))))))
 · exact Pr.le_refl _
 exact absurd h3 (by decide)
 exact absurd h2 (by decide)
 exact absurd h1 (by decide)
end Go.Proofs.Ytflodcidhlmaaaa
namespace Go.Proofs.Ytflodcidhlmaaaa
open Go Go.RowKit Cp Go.ChangeShapes Go.WideShapes Go.ChangeAt

theorem rem_ex (a : Int) (ha : 0 ≤ a) : ∃ K : Nat, a.tmod 30 = ((K : Nat) : Int) ∧ K < 30 := by
  have h1 := Int.tmod_nonneg 30 ha
  have h2 := Int.tmod_lt_of_pos a (show (0 : Int) < 30 by omega)
  exact ⟨(a.tmod 30).toNat, by omega, by omega⟩
theorem epA_odd {a b : Ept} {k : Nat} (h : ((k : Nat) : Int).tmod 2 = 1) : a = epA a b (k + 1) := by unfold epA; rw [if_pos]; rw [Int.tmod_eq_emod_of_nonneg (by omega)] at h; omega
theorem epA_even {a b : Ept} {k : Nat} (h : ¬ ((k : Nat) : Int).tmod 2 = 1) : b = epA a b (k + 1) := by unfold epA; rw [if_neg]; rw [Int.tmod_eq_emod_of_nonneg (by omega)] at h; omega
theorem epA_name {a : Ept} {x : Bool} (j : Nat) : (epA a { a with fall := x } j).name = a.name := by unfold epA; split <;> rfl
theorem two_at {a b : Ept} {k : Int} (h : 0 ≤ k) : ([rowEp a, rowEp b] : List (List Pr))[(k.tmod 2).toNat]? = some (rowEp (epA a b k.toNat)) := by
  unfold epA
  rw [Int.tmod_eq_emod_of_nonneg h]
  by_cases h2 : k % 2 = 0
  · rw [h2, if_pos (by omega)]; rfl
  · rw [show k % 2 = 1 by omega, if_neg (by omega)]; rfl

theorem w_HostRemembers {t : List Int} {cn : Int} (hcn : 0 ≤ cn ∧ cn < 256) : Fun Try.prog 3 [ints t, is (.int .u8 cn)] (bool true) := by
 refine Fun.of Try.func3 rfl rfl (by exact Nat.le_of_ble_eq_true rfl) fun M0 w0 => ?_
 refine Tr.seq (Tr.reg0 (cm rfl (Ch.nil (Fin.go (Tr.seq (Tr.seq (Tr.reg0 (cm rfl (co rfl (ok_call rfl (w_Light) ⟨ke rfl, trivial⟩) (co rfl (ok_not rfl (vl rfl)) (Ch.nil (Fin.go ?_))))))))))))
 refine Tr.cn rfl ?_ ?_ <;> intro h1 q1
 refine Tr.seq (Tr.reg0 (co rfl (ok_call rfl (w_awake36) trivial) (cm rfl (Ch.nil (Fin.go (Tr.ret (Fin.then_ret (Fin.ret1 rfl (OutW.bse _ _) rfl ?_))))))))
 · exact Pr.le_refl _
 have ht4 : t.length ≤ 400 := by simpa using h1
 have ht9 : t.length ≤ 1000000000 := by omega
 refine Tr.skip (Fin.go (Tr.seq (Tr.regT (tm rfl (TO.pad ?_)))))
 refine TO.efs 0 rfl rfl (by decide) (ef_call rfl rfl (by decide) rfl (w_Roll (l := t) ht9) ⟨ke rfl, trivial⟩) (fun v1 => ?_)
 refine TO.opn 24 0 _ rfl rfl (fun _ => rfl) (fun b1 => ?_)
 refine TO.efc 0 rfl rfl (by decide) (ef_callc rfl rfl (by decide) rfl (w_Sound) ⟨ke rfl, trivial⟩) ?_
 refine TO.ex 25 rfl (fun z1 => TO.fact 25 rfl fun hz1 => ?_)
 obtain ⟨a, ha0⟩ := at_ (l := z1) (k := 0) (by omega)
 have hse : SndE 0 a := hz1.2 0 a ha0
 have he := sndE_sz hse
 have hca := eptB_iff.2 (sndE_ok hse)
 have hfb : ({ a with fall := !a.fall } : Ept).fits := ⟨he.name, he.fits.ids⟩
 have hsb : ({ a with fall := !a.fall } : Ept).small := ⟨(he.small (by omega)).suites, (he.small (by omega)).anchors, (he.small (by omega)).hashes, (he.small (by omega)).idl, (he.small (by omega)).ids⟩
 refine TO.alloc rfl rfl (by decide) rfl z29 zo29 (fun b2 => ?_)
 refine TO.store_all 0 rfl rfl rfl (vl rfl) (VL.le (vl rfl) (agg_cellsP _)) rfl sz29 rfl rfl (TO.freeze 0 5 rfl rfl (TO.nil (Fin.openD 0 rfl (fun s1 => ?_))))
 refine Fin.go (Tr.seq (Tr.regT (tp rfl (kfa rfl fo29_0 rfl rfl) (tp rfl (kl1 rfl one25 rfl) (tp rfl (ok_indexAddr rfl Try.underlying25 sz35 (vl rfl) (vl rfl) (by omega) (row_atI (f := rowEp) (i := 0) ha0)) (tp rfl (ok_loadA rfl agg35 sz35 (vl rfl) rfl rfl) (tp rfl (ok_call rfl (w_HNewY he.fits (he.small (by omega)) hca) ⟨ke rfl, trivial⟩) (tm rfl (tp rfl (ok_extract rfl (vl rfl) rfl) (tp rfl (ok_extract rfl (vl rfl) rfl) ?_))))))))))
 refine TO.alloc rfl rfl (by decide) rfl z37 zo37 (fun b3 => ?_)
 refine TO.store_all 0 rfl rfl rfl (vl rfl) (VL.le (vl rfl) (agg_cellsP _)) rfl sz37 rfl rfl (tm rfl (TO.nil (Fin.go (wk4 1 5 6 7 rfl (Tr.seq (Tr.pad (Tr.pad (Tr.regX mixed [none, none, none, none, none, none, none, none, some (0, 0, true, 8), some (0, 1, true, 9), some (8, 0, true, 8), some (9, 1, true, 9)] (by kernel_rfl) (xo rfl (fun _ => kfa rfl fo29_0 rfl rfl) (xo rfl (fun _ => kl1 rfl one25 rfl) (xo rfl (fun _ => ok_indexAddr rfl Try.underlying25 sz35 (vl rfl) (vl rfl) (by omega) (row_atI (f := rowEp) (i := 0) ha0)) (xo rfl (fun _ => ok_loadA rfl agg35 sz35 (vl rfl) rfl rfl) (xo rfl (fun _ => kfa rfl fo29_0 rfl rfl) ?_)))))))))))))
 refine xo rfl (fun _ => kl1 rfl one25 rfl) (xo rfl (fun _ => ok_indexAddr rfl Try.underlying25 sz35 (vl rfl) (vl rfl) (by omega) (row_atI (f := rowEp) (i := 0) ha0)) (xo rfl (fun _ => ok_loadA rfl agg35 sz35 (vl rfl) rfl rfl) (Cx.ef 0 rfl rfl (by decide) (ef_allocX rfl rfl (by decide) rfl z35 zo35) (Cx.ef 1 rfl rfl (by decide) (ef_allocX rfl rfl (by decide) rfl z35 zo35) (Cx.ef0 0 rfl rfl (ef_storeX rfl rfl rfl rfl (VL.le (vl rfl) (agg_cellsP _)) sz35 rfl rfl) (Cx.ef0 1 rfl rfl (ef_storeX rfl rfl rfl rfl (VL.le (vl rfl) (agg_cellsP _)) sz35 rfl rfl) ?_))))))
 refine Cx.nil ⟨rfl, ?_⟩
 refine FinX.open_ 0 8 rfl rfl (fun v2 => ?_)
 refine FinX.open_ 1 9 rfl rfl (fun v3 => ?_)
 refine FinX.done (AllC.cons (AllC.cons (AllC.cons (AllC.cons (AllC.map _))))) (Fin.opn 8 0 _ rfl rfl (fun _ => rfl) (fun b4 => ?_))
 refine Fin.opn 9 1 _ rfl rfl (fun _ => rfl) (fun b5 => ?_)
 refine Fin.go (wk5 1 6 7 8 9 rfl (Tr.seq (Tr.regT (tp rfl (okp_fieldAddr rfl fo35_8 (vl rfl)) (TO.rd 0 rfl rfl rfl (by decide) (rd_load1 rfl one4 (vl rfl) rfl) (tp rfl (ok_not rfl (vl rfl)) (tp rfl (okp_fieldAddr rfl fo35_8 (vl rfl)) (TO.ef0 1 rfl rfl (ef_store rfl rfl (vl rfl) (VL.le (vl rfl) (one_cellsP _)) sz4 rfl (by exact Nat.le_of_ble_eq_true rfl) rfl) (TO.nil (Fin.go (Tr.seq ?_)))))))))))
 have hr1 := Int.tmod_nonneg 30 hcn.1
 have hr2 := Int.tmod_lt_of_pos cn (show (0 : Int) < 30 by omega)
 refine Tr.reg0 (cm rfl (co rfl (ok_rem rfl (vl rfl) (vl rfl) (by omega)) ?_))
 refine co rfl (ok_convI rfl Try.underlying5 Try.underlying3 (vl rfl) (by unfold InI; omega)) ?_
 refine cm rfl (Ch.nil (Fin.go (Tr.seq (Tr.seq ?_))))
 obtain ⟨N, hN, hNl⟩ := rem_ex cn hcn.1
 refine Tr.re 10 rfl (int_eq hN) (Tr.reg0 (cm rfl (cm rfl (Ch.nil (Fin.go (wk7 6 7 8 9 10 49 50 rfl (Tr.block (Tr.loopD1V0 [(6, _), (7, _), (8, _), (9, _), (10, _), (49, _)] ⟨ke rfl, ke rfl, ke rfl, ke rfl, ke rfl, ke rfl, trivial⟩ (fun (k : Nat) => [(50, int ((k : Nat) : Int))]) (fun (k : Nat) => Hp M0 w0 noS ([cellsRes true b4 35 (rowEp a), cellsRes true b5 35 (rowEp ({ a with fall := !a.fall } : Ept)), cellsRes true b3 37 (rowH (hostAt a ({ a with fall := !a.fall } : Ept) k)), diceS b1 s1])) (fun (k : Nat) => k ≤ N) (fun (k : Nat) => N - k) (0)  (Nat.zero_le _) ⟨ke rfl, trivial⟩ (fun _ _ h => h) ?_))))))))
 rintro k  hk1
 refine Tr.seq (Tr.reg0 (co rfl (ki rfl rfl rfl rfl) (Ch.nil (Fin.go (Tr.seq ?_)))))
 refine Tr.cn rfl ?_ ?_ <;> intro h2 q2
 have hk2 : k < N := by have := Nrm.nrm h2; omega
 refine Tr.skip (Fin.go (Tr.seq (Tr.block (Tr.seq (Tr.reg0 (cm rfl (cm rfl (Ch.nil (Fin.go (Tr.seq (Tr.regT (TO.rd 1 rfl rfl rfl (by decide) (rd_loadA rfl agg35 sz35 (vl rfl) rfl rfl) ?_))))))))))))
 refine TO.alloc rfl rfl (by decide) rfl z35 zo35 (fun b6 => ?_)
 refine TO.store_all 0 rfl rfl rfl (vl rfl) (VL.le (vl rfl) (agg_cellsP _)) rfl sz35 rfl rfl (TO.nil (Fin.go (Tr.seq (Tr.seq (Tr.reg0 (cm rfl (co rfl (ok_rem rfl (vl rfl) (vl rfl) (by omega)) (co rfl (ki rfl rfl rfl rfl) (Ch.nil (Fin.go (wk9 6 7 8 9 10 12 49 50 56 rfl ?_)))))))))))
 refine Tr.cn rfl ?_ ?_ <;> intro h3 q3
 have hodd := q3
 refine Tr.regT (TO.rd 1 rfl rfl rfl (by decide) (rd_loadA rfl agg35 sz35 (vl rfl) rfl rfl) (TO.store_all 0 rfl rfl rfl (vl rfl) (VL.le (vl rfl) (agg_cellsP _)) rfl sz35 rfl rfl (TO.nil (Fin.go (Tr.seq (Tr.regT (TO.rd 3 rfl rfl rfl (by decide) (rd_loadA rfl agg37 sz37 (vl rfl) rfl rfl) (TO.rd 0 rfl rfl rfl (by decide) (rd_loadA rfl agg35 sz35 (vl rfl) rfl rfl) ?_))))))))
 refine tp rfl (ok_call rfl (w_tryAt (a := a) (b := ({ a with fall := !a.fall } : Ept)) (k := k) (epA_odd hodd) rfl hca hca he.fits hfb (he.small (by omega)) hsb) ⟨ke rfl, ke rfl, ke rfl, trivial⟩) ?_
 refine tm rfl (tp rfl (ok_extract rfl (vl rfl) rfl) (tp rfl (ok_extract rfl (vl rfl) rfl) (tp rfl (ok_extract rfl (vl rfl) rfl) ?_)))
 refine TO.alloc rfl rfl (by decide) rfl z37 zo37 (fun b7 => ?_)
 refine TO.store_all 0 rfl rfl rfl (vl rfl) (VL.le (vl rfl) (agg_cellsP _)) rfl sz37 rfl rfl (TO.freeze 0 13 rfl rfl (tm rfl (tm rfl (TO.nil (Fin.go (Tr.drop 0 (wk10 6 7 8 9 10 13 14 15 49 50 rfl (Tr.seq (Tr.seq (Tr.reg0 (cm rfl (co rfl (ki rfl rfl rfl rfl) (cm rfl ?_)))))))))))))
 refine Ch.cs 67 rfl ?_ ?_ <;> intro h4 q4
 exact absurd rfl q4
 refine cym h4 rfl (cy h4 rfl (ok_not rfl (vl rfl)) (co rfl (kpf rfl rfl h4 rfl) (Ch.nil (Fin.go (wk9 6 7 8 9 10 13 49 50 70 rfl ?_)))))
 refine Tr.cn rfl ?_ ?_ <;> intro h5 q5
 exact absurd h5 (by decide)
 refine Tr.skip (Fin.go (Tr.regT (tp rfl (ok_loadA rfl agg37 sz37 (vl rfl) rfl rfl) (TO.store_all 2 rfl rfl rfl (vl rfl) (VL.le (vl rfl) (agg_cellsP _)) rfl sz37 rfl rfl (TO.nil (Fin.block (Fin.go (Tr.reg0 (cad rfl rfl rfl rfl (by omega) (cm rfl (Ch.nil (Fin.famD1V0 (k + 1)  (⟨by omega, by omega⟩) ⟨⟨_, rfl, int_succ k⟩, ke rfl, ke rfl, ke rfl, ke rfl, ke rfl, ke rfl, trivial⟩ (fun _ _ h => h)))))))))))))
 have hodd := q3
 refine Tr.skip (Fin.go (Tr.seq (Tr.regT (TO.rd 3 rfl rfl rfl (by decide) (rd_loadA rfl agg37 sz37 (vl rfl) rfl rfl) (TO.rd 0 rfl rfl rfl (by decide) (rd_loadA rfl agg35 sz35 (vl rfl) rfl rfl) ?_)))))
 refine tp rfl (ok_call rfl (w_tryAt (a := a) (b := ({ a with fall := !a.fall } : Ept)) (k := k) (epA_even hodd) rfl hca hca he.fits hfb (he.small (by omega)) hsb) ⟨ke rfl, ke rfl, ke rfl, trivial⟩) ?_
 refine tm rfl (tp rfl (ok_extract rfl (vl rfl) rfl) (tp rfl (ok_extract rfl (vl rfl) rfl) (tp rfl (ok_extract rfl (vl rfl) rfl) ?_)))
 refine TO.alloc rfl rfl (by decide) rfl z37 zo37 (fun b8 => ?_)
 refine TO.store_all 0 rfl rfl rfl (vl rfl) (VL.le (vl rfl) (agg_cellsP _)) rfl sz37 rfl rfl (TO.freeze 0 13 rfl rfl (tm rfl (tm rfl (TO.nil (Fin.go (Tr.drop 0 (wk10 6 7 8 9 10 13 14 15 49 50 rfl (Tr.seq (Tr.seq (Tr.reg0 (cm rfl (co rfl (ki rfl rfl rfl rfl) (cm rfl ?_)))))))))))))
 refine Ch.cs 67 rfl ?_ ?_ <;> intro h6 q6
 exact absurd rfl q6
 refine cym h6 rfl (cy h6 rfl (ok_not rfl (vl rfl)) (co rfl (kpf rfl rfl h6 rfl) (Ch.nil (Fin.go (wk9 6 7 8 9 10 13 49 50 70 rfl ?_)))))
 refine Tr.cn rfl ?_ ?_ <;> intro h7 q7
 exact absurd h7 (by decide)
 refine Tr.skip (Fin.go (Tr.regT (tp rfl (ok_loadA rfl agg37 sz37 (vl rfl) rfl rfl) (TO.store_all 2 rfl rfl rfl (vl rfl) (VL.le (vl rfl) (agg_cellsP _)) rfl sz37 rfl rfl (TO.nil (Fin.block (Fin.go (Tr.reg0 (cad rfl rfl rfl rfl (by omega) (cm rfl (Ch.nil (Fin.famD1V0 (k + 1)  (⟨by omega, by omega⟩) ⟨⟨_, rfl, int_succ k⟩, ke rfl, ke rfl, ke rfl, ke rfl, ke rfl, ke rfl, trivial⟩ (fun _ _ h => h)))))))))))))
 have hke : k = N := by have := Nrm.nrm h2; omega
 refine Tr.exit (Fin.then_exit (Fin.then_exit (Fin.block_here (Fin.go (Tr.seq (Tr.reg0 (cm rfl (Ch.nil (Fin.go (Tr.seq (Tr.block ?_)))))))))))
 refine Tr.loopD1V0 [(6, _), (7, _), (8, _), (9, _), (10, _)] ⟨ke rfl, ke rfl, ke rfl, ke rfl, ke rfl, trivial⟩ (fun (j : Nat) => [(16, int ((j : Nat) : Int))]) (fun (j : Nat) => Hp M0 w0 noS ([cellsRes true b4 35 (rowEp a), cellsRes true b5 35 (rowEp ({ a with fall := !a.fall } : Ept)), cellsRes true b3 37 (rowH (backAt a ({ a with fall := !a.fall } : Ept) N j)), diceS b1 s1])) (fun (j : Nat) => j ≤ min N 24) (fun (j : Nat) => min N 24 - j) (0)  (Nat.zero_le _) ⟨ke rfl, trivial⟩ (fun _ _ h => by rw [← back_zero, ← hke]; exact h) ?_
 rintro j  hj1
 refine Tr.block (Tr.seq (Tr.regT (TO.rd 2 rfl rfl rfl (by decide) (rd_loadA rfl agg37 sz37 (vl rfl) rfl rfl) ?_)))
 refine tp rfl (ok_call rfl (w_backAt (a := a) (b := ({ a with fall := !a.fall } : Ept)) (n := N) (j := j) (he.small (by omega)) hsb) ⟨ke rfl, trivial⟩) ?_
 refine tm rfl (tp rfl (ok_extract rfl (vl rfl) rfl) (tp rfl (ok_extract rfl (vl rfl) rfl) ?_))
 refine TO.alloc rfl rfl (by decide) rfl z37 zo37 (fun b9 => ?_)
 refine TO.store_all 0 rfl rfl rfl (vl rfl) (VL.le (vl rfl) (agg_cellsP _)) rfl sz37 rfl rfl (TO.freeze 0 17 rfl rfl (tm rfl (TO.nil (Fin.go (wk8 6 7 8 9 10 16 17 18 rfl (Tr.seq (Tr.seq (Tr.reg0 (cm rfl (co rfl (ki rfl rfl rfl rfl) (cm rfl ?_)))))))))))
 refine Ch.cs 80 rfl ?_ ?_ <;> intro h8 q8
 have hjm : ¬ j < min N 24 := fun h_ => q8 (if_pos h_)
 refine cnf h8 rfl (cnf h8 rfl (co rfl (kpt rfl rfl h8 rfl) (Ch.nil (Fin.go (wk8 6 7 8 9 10 16 17 83 rfl (Tr.cond rfl (fun _ => ?_) (fun h => nomatch h)))))))
 refine Tr.exit (Fin.then_exit (Fin.block_on rfl (Fin.then_exit (Fin.block_here (Fin.go (Tr.seq ?_))))))
 have htm1 := Int.tmod_nonneg 2 (show (0 : Int) ≤ (N : Int) - (j : Int) by omega)
 have htm2 := Int.tmod_lt_of_pos ((N : Int) - (j : Int)) (show (0 : Int) < 2 by omega)
 refine Tr.reg1 mixed (by kernel_rfl) (cm rfl (co rfl (ki rfl rfl rfl rfl) (cm rfl ?_)))
 refine Ch.cs 89 rfl ?_ ?_ <;> intro h9 q9
 refine cym h9 rfl (cym h9 rfl (cy h9 rfl (ok_min rfl (vl rfl) (vl rfl)) (cy h9 rfl (ki rfl rfl rfl rfl) (co rfl (kpt rfl rfl h9 rfl) (cm rfl ?_)))))
 refine Ch.cs 95 rfl ?_ ?_ <;> intro h10 q10
 refine cy h10 rfl (okp_fieldAddr rfl fo37_0 (vl rfl)) (cy h10 rfl (okp_fieldAddr rfl fo35_0 (vl rfl)) (cy h10 rfl (ok_rd 2 rfl (rd_load1 rfl one9 (vl rfl) rfl)) (cy h10 rfl (okp_fieldAddr rfl fo35_0 (vl rfl)) (cy h10 rfl (ok_rd 0 rfl (rd_load1 rfl one9 (vl rfl) rfl)) (cy h10 rfl (ok_eqs rfl (vl rfl) (vl rfl)) (co rfl (kpt rfl rfl h10 rfl) (cm rfl ?_)))))))
 refine Ch.cs 103 rfl ?_ ?_ <;> intro h11 q11
 refine cy h11 rfl (okp_fieldAddr rfl fo37_0 (vl rfl)) (cy h11 rfl (ok_rd 2 rfl (rd_loadA rfl agg35 sz35 (vl rfl) rfl rfl)) (cy h11 rfl (ok_rd 0 rfl (rd_loadA rfl agg35 sz35 (vl rfl) rfl rfl)) (cy h11 rfl (ok_rd 1 rfl (rd_loadA rfl agg35 sz35 (vl rfl) rfl rfl)) (cy h11 rfl (ok_buildSlice (xs := [.tmp 106, .tmp 107]) (rows := [_, _]) rfl rfl Try.underlying25 sz35 z35 rfl (by decide) ⟨⟨(by exact rfl), (VL.le (vl rfl) (agg_cellsP _))⟩, ⟨⟨(by exact rfl), (VL.le (vl rfl) (agg_cellsP _))⟩, trivial⟩⟩ (by decide)) ?_))))
 refine cym h11 rfl (cym h11 rfl ?_)
 refine cy h11 rfl (ok_sub rfl (vl rfl) (vl rfl) ?hin) ?_; case hin => unfold InI; omega
 refine cy h11 rfl (ok_rem rfl (vl rfl) (vl rfl) (by omega)) (cy h11 rfl (ok_indexAddr rfl Try.underlying25 sz35 ⟨_, rfl, full_le _ _⟩ (vl rfl) (by omega) (two_at (by omega))) (cy h11 rfl (ok_loadA rfl agg35 sz35 (vl rfl) rfl rfl) (cy h11 rfl (ok_call rfl (w_R9Same) ⟨ke rfl, ke rfl, trivial⟩) (co rfl (kpt rfl rfl h11 rfl) (cm rfl ?_)))))
 refine Ch.cs 117 rfl ?_ ?_ <;> intro h12 q12
 refine cy h12 rfl (ok_call rfl (w_awake36) trivial) (co rfl (kpt rfl rfl h12 rfl) (cm rfl (Ch.nil (Fin.go (wk1 4 rfl (Tr.ret (Fin.ret1 rfl (OutW.bse _ _) rfl ?_)))))))
 · exact Pr.le_refl _
 exact absurd (by show epA _ _ _ = epA _ _ _; congr 1; omega) q12
 exact absurd (epA_name _) q11
 exfalso; have := q10; omega
 exact absurd rfl q9
 have hjm : j < min N 24 := Decidable.byContradiction fun h_ => by have hq_ := q8; unfold backG at hq_; rw [if_neg h_] at hq_; omega
 refine cym h8 rfl (cy h8 rfl (ki rfl rfl rfl rfl) (co rfl (kpf rfl rfl h8 rfl) (Ch.nil (Fin.go (wk8 6 7 8 9 10 16 17 83 rfl ?_)))))
 refine Tr.cn rfl ?_ ?_ <;> intro h13 q13
 exfalso; have := q13; omega
 refine Tr.skip (Fin.go (Tr.seq (Tr.regT (tp rfl (ok_loadA rfl agg37 sz37 (vl rfl) rfl rfl) (TO.store_all 2 rfl rfl rfl (vl rfl) (VL.le (vl rfl) (agg_cellsP _)) rfl sz37 rfl rfl (TO.nil (Fin.go (Tr.reg0 (cm rfl (cad rfl rfl rfl rfl (by omega) (cm rfl (Ch.nil (Fin.block ?_)))))))))))))
 exact Fin.famD1V0 (j + 1)  (⟨by omega, by omega⟩) ⟨⟨_, rfl, int_succ j⟩, ke rfl, ke rfl, ke rfl, ke rfl, ke rfl, trivial⟩ (fun _ _ h => by rw [show backN a ({ a with fall := !a.fall } : Ept) N j = backAt a ({ a with fall := !a.fall } : Ept) N (j + 1) from if_pos hjm] at h; exact h)
theorem hostRemembers_lifted (os : Os) (started : os.Started) (H : Type) (enc : TypeId × Value → H) :
    ReturnsInHanded {} Try.checked os 3 .any (Rows.hostRemembersSpec.pre6 enc Try.prog Try.f3 Rows.hostRemembersRow.domain false) (Rows.hostRemembersSpec.post enc Try.prog Try.f3 false true false false) := by
  refine returnsInHanded_of_change (C := Try.checked) own0 started (by kernel_rfl) Try.func3
    (ChangeSpec.witness6 (enc := enc) (C := Try.checked) false ⟨#[], #[.slice none 0 0, .int .u8 0], []⟩ 8 (by kernel_rfl) (by kernel_rfl) (by kernel_rfl) (by kernel_rfl)) ?_
  intro W base args ds gs before hval0 hW hcnd _
  have hval : ∀ (j : Nat) t v, Try.f3.params[j]? = some t → args[j]? = some v → Value.okWide Try.prog W .any base t v := hval0
  have hW' := hW
  obtain ⟨p, q, hA0, hV, hpq, hfz, hnd⟩ := hW
  have hA : DataW.TrodAll enc Try.prog W 0 (fun _ => true) true Try.f3.params.toList args.toList ds p := hA0
  have hA' := hA
  rw [Try.params3] at hA hval
  obtain ⟨v0, v1, d0, d1, p0, p1, rfl, rfl, hp, h0, h1⟩ := trodAll_two hA
  obtain ⟨rfl, rfl⟩ := trodVars_none hV
  obtain ⟨a0, hr0, e0⟩ := arg_one (opens_ints Try.underlying22 Try.underlying3 (by kernel_rfl)) h0 (by obtain ⟨_, _, _, rfl⟩ := okWide_slice Try.underlying22 (hval 0 22 v0 rfl rfl); rfl)
  obtain ⟨a1, hr1, e1⟩ := arg_one (opens_int Try.underlying5) h1 (by obtain ⟨_, rfl⟩ := okWide_int Try.underlying5 (hval 1 5 v1 rfl rfl); rfl)
  refine ((w_HostRemembers (u8_in hr1)).2 noM W [v0, v1] (noM_bd W) ⟨e0, e1, trivial⟩).mono fun e W' ⟨v, he, hv, hb⟩ => ?_
  subst he
  obtain rfl : v = .bool true := hv
  exact ⟨_, rfl, law_post laidOut0 (by kernel_rfl) rfl Try.underlying4 rfl hA' (by rw [hpq]; simp) hW' rfl hb⟩
theorem hostRemembers_holds : Rows.HostRemembersSaid :=
  OpenClaim.holds_of_wide 3 Try.f3 rfl rfl rfl rfl rfl rfl rfl ⟨rfl, rfl, rfl, rfl, rfl⟩ rfl rfl rfl rfl rfl (by kernel_rfl) Try.func3 (by kernel_rfl)
    (of_decide_eq_true (by kernel_rfl)) (by unfold Func.isWrapper; first | (rw [if_pos (by decide +kernel)]; kernel_rfl) | (rw [if_neg (by decide +kernel)]; exact ⟨rfl, rfl⟩))
    (fun os started H enc _ => hostRemembers_lifted os started H enc)
end Go.Proofs.Ytflodcidhlmaaaa
