/-
  The law: what changes of any kind make of an endpoint, and what leads back, or the error.
-/
import Derived.Test.YtppeeogffbpcbaaGreatRows
import Derived.Test.YtppeeogffbpcbaaGreatCkHP6
set_option linter.all false
set_option maxRecDepth 40000
set_option maxHeartbeats 16000000
namespace Go.Proofs.YtppeeogffbpcbaaGreat
open Go Go.RowKit Cp
theorem w_SEqT {a b : List (List UInt8)}  : Fun Tryz.prog 131 [txts a, txts b] (bool (decide (a = b))) := by
 refine fo Tryz.func131 rfl ⟨rfl, rfl⟩ fun M0 w0 => (Tr.lenm 0 rfl fun hlm_0 => (Tr.lenm 1 rfl fun hlm_1 => ?_))
 refine ac ?_
 refine ac ?_
 refine Tr.cn rfl ?_ ?_ <;> intro h1 q1
 have hne : ¬ a.length = b.length := by simp_all; omega
 refine ac ?_
 refine ac ?_
 · refine bool_eq ?_; symm; rw [decide_eq_false_iff_not]; rintro rfl; exact hne rfl
 have hll : a.length = b.length := by simp_all; omega
 refine ac ?_
 refine ac ?_
 refine Tr.block (Tr.loopw [(0, _), (1, _), (12, _)] (kk3 rfl) (fun k : Nat => [(13, int ((k : Nat) : Int))]) (fun k : Nat => k ≤ (a).length ∧ (a.take k = b.take k)) (fun k : Nat => (a).length - k) 0 (⟨Nat.zero_le _, rfl⟩) ⟨ke rfl, trivial⟩ ?_)
 rintro k ⟨hle_k, hinv_k⟩
 refine ac ?_
 refine Tr.seq ?_
 refine Tr.cn rfl ?_ ?_ <;> intro h2 q2
 have hk_k : k < (a).length := lt_of_dec h2
 obtain ⟨x, hx_k⟩ := at_ hk_k
 obtain ⟨y, hy⟩ := at_ (l := b) (k := k) (by omega)
 refine ac ?_
 refine ac ?_
 refine ac ?_
 refine co rfl (ok_indexAddr rfl Tryz.underlying74 sz9 (vl rfl) (vl rfl) (by omega) (row_at hx_k)) ?_
 refine ac ?_
 refine co rfl (ok_indexAddr rfl Tryz.underlying74 sz9 (vl rfl) (vl rfl) (by omega) (row_at hy)) ?_
 refine ac ?_
 refine wk5 0 1 12 13 24 rfl ?_
 refine Tr.cn rfl ?_ ?_ <;> intro h3 q3
 refine ac ?_
 refine ac ?_
 · refine bool_eq ?_; symm; rw [decide_eq_false_iff_not]; refine sameN hx_k hy ?_; rintro rfl; simp_all
 refine ac ?_
 refine ac ?_
 exact Fin.fam_same (k + 1) ⟨⟨hk_k, sameY hx_k hy hinv_k (by simp_all)⟩, by omega⟩ ⟨⟨_, rfl, int_succ k⟩, ke rfl, ke rfl, ke rfl, trivial⟩
 have he_k : k = (a).length := by have := ge_of_dec h2; omega
 subst he_k
 refine ac ?_
 refine ac ?_
 refine ac ?_
 · refine bool_eq ?_; symm; rw [decide_eq_true_eq]; exact sameA hll hinv_k
theorem w_EqFC {a b : List Crt}  : Fun Tryz.prog 85 [certs a, certs b, clo Tryz.prog (fun p : Crt × Crt => [agg (rowCr p.1), agg (rowCr p.2)]) (fun p => bool (decide (p.1 = p.2)))] (bool (decide (a = b))) := by
 refine fo Tryz.func85 rfl ⟨rfl, rfl⟩ fun M0 w0 => (Tr.lenm 0 rfl fun hlm_0 => (Tr.lenm 1 rfl fun hlm_1 => ?_))
 refine ac ?_
 refine ac ?_
 refine Tr.cn rfl ?_ ?_ <;> intro h1 q1
 have hne : ¬ a.length = b.length := by simp_all; omega
 refine ac ?_
 refine ac ?_
 · refine bool_eq ?_; symm; rw [decide_eq_false_iff_not]; rintro rfl; exact hne rfl
 have hll : a.length = b.length := by simp_all; omega
 refine ac ?_
 refine ac ?_
 refine Tr.block (Tr.loopw [(1, _), (2, _), (15, _), (16, _)] (kk4 rfl) (fun k : Nat => [(17, int ((k : Nat) : Int))]) (fun k : Nat => k ≤ (a).length ∧ (a.take k = b.take k)) (fun k : Nat => (a).length - k) 0 (⟨Nat.zero_le _, rfl⟩) ⟨ke rfl, trivial⟩ ?_)
 rintro k ⟨hle_k, hinv_k⟩
 refine ac ?_
 refine Tr.seq ?_
 refine Tr.cn rfl ?_ ?_ <;> intro h2 q2
 have hk_k : k < (a).length := lt_of_dec h2
 obtain ⟨x, hx_k⟩ := at_ hk_k
 obtain ⟨y, hy⟩ := at_ (l := b) (k := k) (by omega)
 refine ac ?_
 refine ao ?_
 refine tp rfl (ok_indexAddr rfl Tryz.underlying25 sz131 (vl rfl) (vl rfl) (by omega) (row_at hx_k)) (tp rfl (ok_loadA rfl agg131 sz131 (vl rfl) rfl rfl) ?_)
 refine TO.alloc rfl rfl (by decide) rfl z131 zo131 (fun b1 => ?_)
 refine tm rfl ?_
 refine sf 0 8 ⟨rfl, rfl, rfl⟩ rfl rfl rfl rfl ?_
 refine ao ?_
 refine ao ?_
 refine tp rfl (ok_indexAddr rfl Tryz.underlying25 sz131 (vl rfl) (vl rfl) (by omega) (row_at hy)) (tp rfl (ok_loadA rfl agg131 sz131 (vl rfl) rfl rfl) ?_)
 refine TO.alloc rfl rfl (by decide) rfl z131 zo131 (fun b2 => ?_)
 refine sf 0 9 ⟨rfl, rfl, rfl⟩ rfl rfl rfl rfl ?_
 refine ao ?_
 refine wk7 1 2 8 9 15 16 17 rfl ?_
 refine ac ?_
 refine co rfl (ok_callc (x, y) rfl (vl rfl) ⟨ke rfl, ke rfl, trivial⟩) ?_
 refine ac ?_
 refine Tr.cn rfl ?_ ?_ <;> intro h3 q3
 refine ac ?_
 refine ac ?_
 · refine bool_eq ?_; symm; rw [decide_eq_false_iff_not]; refine sameN hx_k hy ?_; rintro rfl; simp_all
 refine ac ?_
 refine ac ?_
 exact Fin.fam_same (k + 1) ⟨⟨hk_k, sameY hx_k hy hinv_k (by simp_all)⟩, by omega⟩ ⟨⟨_, rfl, int_succ k⟩, ke rfl, ke rfl, ke rfl, ke rfl, trivial⟩
 have he_k : k = (a).length := by have := ge_of_dec h2; omega
 subst he_k
 refine ac ?_
 refine ac ?_
 refine ac ?_
 · refine bool_eq ?_; symm; rw [decide_eq_true_eq]; exact sameA hll hinv_k
end Go.Proofs.YtppeeogffbpcbaaGreat
namespace Go.Proofs.YtppeeogffbpcbaaGreat
open Go Go.RowKit Cp
theorem w_sameCert {a b : Crt}  : Fun Tryz.prog 86 [agg (rowCr a), agg (rowCr b)] (bool (decide (a = b))) := by
 refine fo Tryz.func86 rfl ⟨rfl, rfl⟩ fun M0 w0 => ?_
 refine ac ?_
 refine ac ?_
 refine Ch.cs 10 rfl ?_ ?_ <;> intro h1 q1
 refine ac ?_
 refine Ch.cs 17 rfl ?_ ?_ <;> intro h2 q2
 refine ac ?_
 refine Ch.cs 24 rfl ?_ ?_ <;> intro h3 q3
 refine ac ?_
 refine cy h3 rfl (ok_eq24 rfl (vl rfl) (vl rfl)) ?_
 refine ac ?_
 refine Ch.cs 31 rfl ?_ ?_ <;> intro h4 q4
 refine ac ?_
 refine Ch.cs 38 rfl ?_ ?_ <;> intro h5 q5
 refine ac ?_
 refine cy h5 rfl (ok_eq24 rfl (vl rfl) (vl rfl)) ?_
 refine ac ?_
 refine Ch.cs 45 rfl ?_ ?_ <;> intro h6 q6
 refine ac ?_
 refine Ch.cs 52 rfl ?_ ?_ <;> intro h7 q7
 refine ac ?_
 refine Ch.cs 59 rfl ?_ ?_ <;> intro h8 q8
 refine ac ?_
 refine Ch.cs 66 rfl ?_ ?_ <;> intro h9 q9
 refine ac ?_
 refine Ch.cs 73 rfl ?_ ?_ <;> intro h10 q10
 refine ac ?_
 refine cy h10 rfl (kc2 (w_SEqT) rfl rfl rfl) ?_
 refine ac ?_
 refine Ch.cs 80 rfl ?_ ?_ <;> intro h11 q11
 refine ac ?_
 refine cy h11 rfl (ok_eq129 rfl (vl rfl) (vl rfl)) ?_
 refine ac ?_
 refine wk1 4 rfl ?_
 refine ac ?_
 · refine bool_eq ?_; cases a; cases b; simp_all [Bool.beq_eq_decide_eq]
 refine ac ?_
 refine wk1 4 rfl ?_
 refine ac ?_
 · refine bool_eq ?_; cases a; cases b; simp_all [Bool.beq_eq_decide_eq]
 refine ac ?_
 refine wk1 4 rfl ?_
 refine ac ?_
 · refine bool_eq ?_; cases a; cases b; simp_all [Bool.beq_eq_decide_eq]
 refine ac ?_
 refine wk1 4 rfl ?_
 refine ac ?_
 · refine bool_eq ?_; cases a; cases b; simp_all [Bool.beq_eq_decide_eq]
 refine ac ?_
 refine wk1 4 rfl ?_
 refine ac ?_
 · refine bool_eq ?_; cases a; cases b; simp_all [Bool.beq_eq_decide_eq]
 refine ac ?_
 refine wk1 4 rfl ?_
 refine ac ?_
 · refine bool_eq ?_; cases a; cases b; simp_all [Bool.beq_eq_decide_eq]
 refine ac ?_
 refine wk1 4 rfl ?_
 refine ac ?_
 · refine bool_eq ?_; cases a; cases b; simp_all [Bool.beq_eq_decide_eq]
 refine ac ?_
 refine wk1 4 rfl ?_
 refine ac ?_
 · refine bool_eq ?_; cases a; cases b; simp_all [Bool.beq_eq_decide_eq]
 refine ac ?_
 refine wk1 4 rfl ?_
 refine ac ?_
 · refine bool_eq ?_; cases a; cases b; simp_all [Bool.beq_eq_decide_eq]
 refine ac ?_
 refine wk1 4 rfl ?_
 refine ac ?_
 · refine bool_eq ?_; cases a; cases b; simp_all [Bool.beq_eq_decide_eq]
 refine ac ?_
 refine wk1 4 rfl ?_
 refine ac ?_
 · refine bool_eq ?_; cases a; cases b; simp_all [Bool.beq_eq_decide_eq]
 refine ac ?_
 refine wk1 4 rfl ?_
 refine ac ?_
 · refine bool_eq ?_; cases a; cases b; simp_all [Bool.beq_eq_decide_eq]
theorem e_sameCert : Entry Tryz.prog 86 := ⟨_, Tryz.func86, rfl, rfl⟩
theorem w_ChSame {a b : Chg}  : Fun Tryz.prog 27 [agg (rowChg a), agg (rowChg b)] (bool (decide (a = b))) := by
 refine fo Tryz.func27 rfl ⟨rfl, rfl⟩ fun M0 w0 => ?_
 refine ac ?_
 refine Tr.seq (Tr.pad (Tr.pad (Tr.rx ?_)))
 refine ax ?_
 refine Cx.ef 0 rfl rfl (by decide) (ef_allocX rfl rfl (by decide) rfl z27 zo27) (Cx.ef 1 rfl rfl (by decide) (ef_allocX rfl rfl (by decide) rfl z27 zo27) (Cx.ef0 0 rfl rfl (ef_storeX rfl rfl rfl rfl (VL.le (vl rfl) (agg_cellsP _)) sz27 rfl rfl) (Cx.ef0 1 rfl rfl (ef_storeX rfl rfl rfl rfl (VL.le (vl rfl) (agg_cellsP _)) sz27 rfl rfl) ?_)))
 refine Cx.nil ⟨by kernel_rfl, ?_⟩
 refine FinX.open_ 0 5 rfl rfl (fun v1 => ?_)
 refine FinX.open_ 1 6 rfl rfl (fun v2 => ?_)
 refine FinX.done al2 (Fin.opn 5 0 _ rfl rfl (fun _ => rfl) (fun b1 => ?_))
 refine Fin.opn 6 1 _ rfl rfl (fun _ => rfl) (fun b2 => ?_)
 refine Fin.go ?_
 refine ac ?_
 refine Ch.cs 16 rfl ?_ ?_ <;> intro h1 q1
 refine ac ?_
 refine Ch.cs 23 rfl ?_ ?_ <;> intro h2 q2
 refine ac ?_
 refine Ch.cs 30 rfl ?_ ?_ <;> intro h3 q3
 refine ac ?_
 refine Ch.cs 37 rfl ?_ ?_ <;> intro h4 q4
 refine ac ?_
 refine cy h4 rfl (ok_eq24 rfl (vl rfl) (vl rfl)) ?_
 refine ac ?_
 refine Ch.cs 44 rfl ?_ ?_ <;> intro h5 q5
 refine ac ?_
 refine Ch.cs 51 rfl ?_ ?_ <;> intro h6 q6
 refine ac ?_
 refine cy h6 rfl (ok_call rfl (w_EqFC) ⟨ke rfl, ke rfl, ⟨_, rfl, fn_le_clo (dom := fun p : Crt × Crt => [agg (rowCr p.1), agg (rowCr p.2)]) (res := fun p => bool (decide (p.1 = p.2))) e_sameCert (fun p => w_sameCert (a := p.1) (b := p.2))⟩, trivial⟩) ?_
 refine ac ?_
 refine Tr.drop 0 (Tr.drop 0 (wk1 4 rfl ?_))
 refine ac ?_
 · refine bool_eq ?_; obtain ⟨a1, a2, a3, a4, a5⟩ := a; obtain ⟨b1, b2, b3, b4, b5⟩ := b; cases a5; cases b5; simp_all [Bool.beq_eq_decide_eq]
 refine ac ?_
 refine Tr.drop 0 (Tr.drop 0 (wk1 4 rfl ?_))
 refine ac ?_
 · refine bool_eq ?_; obtain ⟨a1, a2, a3, a4, a5⟩ := a; obtain ⟨b1, b2, b3, b4, b5⟩ := b; cases a5; cases b5; simp_all [Bool.beq_eq_decide_eq]
 refine ac ?_
 refine Tr.drop 0 (Tr.drop 0 (wk1 4 rfl ?_))
 refine ac ?_
 · refine bool_eq ?_; obtain ⟨a1, a2, a3, a4, a5⟩ := a; obtain ⟨b1, b2, b3, b4, b5⟩ := b; cases a5; cases b5; simp_all [Bool.beq_eq_decide_eq]
 refine ac ?_
 refine Tr.drop 0 (Tr.drop 0 (wk1 4 rfl ?_))
 refine ac ?_
 · refine bool_eq ?_; obtain ⟨a1, a2, a3, a4, a5⟩ := a; obtain ⟨b1, b2, b3, b4, b5⟩ := b; cases a5; cases b5; simp_all [Bool.beq_eq_decide_eq]
 refine ac ?_
 refine Tr.drop 0 (Tr.drop 0 (wk1 4 rfl ?_))
 refine ac ?_
 · refine bool_eq ?_; obtain ⟨a1, a2, a3, a4, a5⟩ := a; obtain ⟨b1, b2, b3, b4, b5⟩ := b; cases a5; cases b5; simp_all [Bool.beq_eq_decide_eq]
 refine ac ?_
 refine Tr.drop 0 (Tr.drop 0 (wk1 4 rfl ?_))
 refine ac ?_
 · refine bool_eq ?_; obtain ⟨a1, a2, a3, a4, a5⟩ := a; obtain ⟨b1, b2, b3, b4, b5⟩ := b; cases a5; cases b5; simp_all [Bool.beq_eq_decide_eq]
 refine ac ?_
 refine Tr.drop 0 (Tr.drop 0 (wk1 4 rfl ?_))
 refine ac ?_
 · refine bool_eq ?_; obtain ⟨a1, a2, a3, a4, a5⟩ := a; obtain ⟨b1, b2, b3, b4, b5⟩ := b; cases a5; cases b5; simp_all [Bool.beq_eq_decide_eq]
end Go.Proofs.YtppeeogffbpcbaaGreat
namespace Go.Proofs.YtppeeogffbpcbaaGreat
open Go Go.RowKit Cp

theorem opensW_str : OpensW Tryz.prog 9 (fun s : List UInt8 => s.length ≤ maxLen) (fun s => [str s]) := ((opens_string Tryz.underlying9).w).map (fun s => s.data.toList) (fun s h => h) (fun _ => rfl)


theorem opensW_crt : OpensW Tryz.prog 131 (fun c : Crt => c.fits ∧ c.names.length ≤ 8796093022208) rowCr :=
  (opensW_struct Tryz.underlying131 (by kernel_rfl) (opensFW_cons (c := 1) rfl (by kernel_rfl) ((opens_int Tryz.underlying3).w) (opensFW_cons (c := 1) rfl (by kernel_rfl) ((opens_string Tryz.underlying9).w) (opensFW_cons (c := 1) rfl (by kernel_rfl) ((opens_string Tryz.underlying9).w) (opensFW_cons (c := 2) rfl (by kernel_rfl) (opensW_struct Tryz.underlying24 (by kernel_rfl) (opensFW_cons (c := 1) rfl (by kernel_rfl) ((opens_int Tryz.underlying3).w) (opensFW_cons (c := 1) rfl (by kernel_rfl) ((opens_int Tryz.underlying3).w) (opensFW_nil _ _)))) (opensFW_cons (c := 1) rfl (by kernel_rfl) ((opens_int Tryz.underlying3).w) (opensFW_cons (c := 2) rfl (by kernel_rfl) (opensW_struct Tryz.underlying24 (by kernel_rfl) (opensFW_cons (c := 1) rfl (by kernel_rfl) ((opens_int Tryz.underlying3).w) (opensFW_cons (c := 1) rfl (by kernel_rfl) ((opens_int Tryz.underlying3).w) (opensFW_nil _ _)))) (opensFW_cons (c := 1) rfl (by kernel_rfl) ((opens_int Tryz.underlying3).w) (opensFW_cons (c := 1) rfl (by kernel_rfl) ((opens_int Tryz.underlying3).w) (opensFW_cons (c := 1) rfl (by kernel_rfl) ((opens_bool Tryz.underlying4).w) (opensFW_cons (c := 1) rfl (by kernel_rfl) ((opens_int Tryz.underlying3).w) (opensFW_cons (c := 1) rfl (by kernel_rfl) (opensW_slice (b := 16) Tryz.underlying74 (by kernel_rfl) (by kernel_rfl) opensW_str) (opensFW_cons (c := 2) rfl (by kernel_rfl) (opensW_struct Tryz.underlying129 (by kernel_rfl) (opensFW_cons (c := 1) rfl (by kernel_rfl) ((opens_int Tryz.underlying3).w) (opensFW_cons (c := 1) rfl (by kernel_rfl) ((opens_int Tryz.underlying3).w) (opensFW_nil _ _)))) (opensFW_nil _ _)))))))))))))).map (fun z => (⟨z.1, z.2.1.data.toList, z.2.2.1.data.toList, z.2.2.2.1.1, z.2.2.2.1.2.1, z.2.2.2.2.1, z.2.2.2.2.2.1.1, z.2.2.2.2.2.1.2.1, z.2.2.2.2.2.2.1, z.2.2.2.2.2.2.2.1, z.2.2.2.2.2.2.2.2.1, z.2.2.2.2.2.2.2.2.2.1, z.2.2.2.2.2.2.2.2.2.2.1, z.2.2.2.2.2.2.2.2.2.2.2.1.1, z.2.2.2.2.2.2.2.2.2.2.2.1.2.1⟩ : Crt))
    (fun z h => ⟨⟨h.2.1, h.2.2.1, h.2.2.2.2.2.2.2.2.2.2.1.1⟩, by have h1 := h.2.2.2.2.2.2.2.2.2.2.1.2.2; show z.2.2.2.2.2.2.2.2.2.2.1.length ≤ _; unfold reachBytes at h1; omega⟩) (fun _ => rfl)


theorem opensW_idn : OpensW Tryz.prog 27 (fun x : Idn => x.fits ∧ x.small) rowId :=
  (opensW_struct Tryz.underlying27 (by kernel_rfl) (opensFW_cons (c := 2) rfl (by kernel_rfl) (opensW_struct Tryz.underlying24 (by kernel_rfl) (opensFW_cons (c := 1) rfl (by kernel_rfl) ((opens_int Tryz.underlying3).w) (opensFW_cons (c := 1) rfl (by kernel_rfl) ((opens_int Tryz.underlying3).w) (opensFW_nil _ _)))) (opensFW_cons (c := 1) rfl (by kernel_rfl) ((opens_int Tryz.underlying3).w) (opensFW_cons (c := 1) rfl (by kernel_rfl) (opensW_slice (b := 152) Tryz.underlying25 (by kernel_rfl) (by kernel_rfl) opensW_crt) (opensFW_nil _ _))))).map (fun z => (⟨z.1.1, z.1.2.1, z.2.1, z.2.2.1⟩ : Idn)) (fun z h => ⟨fun c hc => (h.2.2.1.1 c hc).1, ⟨by have h1 := h.2.2.1.2.2; show z.2.2.1.length ≤ _; unfold reachBytes at h1; omega, fun c hc => (h.2.2.1.1 c hc).2⟩⟩) (fun _ => rfl)


theorem opensW_chg : OpensW Tryz.prog 29 (fun c : Chg => c.idn.fits ∧ c.idn.small) rowChg :=
  (opensW_struct Tryz.underlying29 (by kernel_rfl) (opensFW_cons (c := 1) rfl (by kernel_rfl) ((opens_int Tryz.underlying3).w) (opensFW_cons (c := 1) rfl (by kernel_rfl) ((opens_int Tryz.underlying3).w) (opensFW_cons (c := 1) rfl (by kernel_rfl) ((opens_int Tryz.underlying3).w) (opensFW_cons (c := 1) rfl (by kernel_rfl) ((opens_int Tryz.underlying3).w) (opensFW_cons (c := 4) rfl (by kernel_rfl) (opensW_idn) (opensFW_nil _ _))))))).map (fun z => (⟨z.1, z.2.1, z.2.2.1, z.2.2.2.1, z.2.2.2.2.1⟩ : Chg)) (fun z h => h.2.2.2.2.1) (fun _ => rfl)
theorem opensW_ept : OpensW Tryz.prog 32 (fun e : Ept => (e.fits ∧ ∀ x ∈ e.ids, x.small) ∧ (e.suites.length ≤ 17592186044416 ∧ e.ids.length ≤ 17592186044416) ∧ e.anchors.length ≤ 17592186044416 ∧ e.hashes.length ≤ 17592186044416) rowEp :=
  (opensW_struct Tryz.underlying32 (by kernel_rfl) (opensFW_cons (c := 1) rfl (by kernel_rfl) ((opens_string Tryz.underlying9).w) (opensFW_cons (c := 1) rfl (by kernel_rfl) ((opens_int Tryz.underlying3).w) (opensFW_cons (c := 1) rfl (by kernel_rfl) ((opens_int Tryz.underlying3).w) (opensFW_cons (c := 1) rfl (by kernel_rfl) (opensW_slice (b := 8) Tryz.underlying22 (by kernel_rfl) (by kernel_rfl) (opens_int Tryz.underlying3).w) (opensFW_cons (c := 1) rfl (by kernel_rfl) ((opens_bool Tryz.underlying4).w) (opensFW_cons (c := 1) rfl (by kernel_rfl) (opensW_slice (b := 48) Tryz.underlying30 (by kernel_rfl) (by kernel_rfl) opensW_idn) (opensFW_cons (c := 1) rfl (by kernel_rfl) (opensW_slice (b := 8) Tryz.underlying22 (by kernel_rfl) (by kernel_rfl) (opens_int Tryz.underlying3).w) (opensFW_cons (c := 1) rfl (by kernel_rfl) (opensW_slice (b := 8) Tryz.underlying22 (by kernel_rfl) (by kernel_rfl) (opens_int Tryz.underlying3).w) (opensFW_cons (c := 1) rfl (by kernel_rfl) ((opens_bool Tryz.underlying4).w) (opensFW_nil _ _))))))))))).map (fun z => (⟨z.1.data.toList, z.2.1, z.2.2.1, z.2.2.2.1, z.2.2.2.2.1, z.2.2.2.2.2.1, z.2.2.2.2.2.2.1, z.2.2.2.2.2.2.2.1, z.2.2.2.2.2.2.2.2.1⟩ : Ept)) (fun z h => ⟨⟨⟨h.1, fun x hx => (h.2.2.2.2.2.1.1 x hx).1⟩, fun x hx => (h.2.2.2.2.2.1.1 x hx).2⟩, ⟨by have h1 := h.2.2.2.1.2.2; show z.2.2.2.1.length ≤ _; unfold reachBytes at h1; omega, by have h1 := h.2.2.2.2.2.1.2.2; show z.2.2.2.2.2.1.length ≤ _; unfold reachBytes at h1; omega⟩, by have h1 := h.2.2.2.2.2.2.1.2.2; show z.2.2.2.2.2.2.1.length ≤ _; unfold reachBytes at h1; omega, by have h1 := h.2.2.2.2.2.2.2.1.2.2; show z.2.2.2.2.2.2.2.1.length ≤ _; unfold reachBytes at h1; omega⟩) (fun _ => rfl)

end Go.Proofs.YtppeeogffbpcbaaGreat
namespace Go.Proofs.YtppeeogffbpcbaaGreat
open Go Go.RowKit Cp Go.ChangeShapes Go.WideShapes Go.ChangeAt

theorem rap_of {e : Ept} {c : Chg} {e2 : Ept} {b : Chg} {f : Int} {n : Nat} (h : doneR e c = (e2, b, f)) (hz : e.sz n) (hn : n ≤ 900000) (hi : c.idn.fits ∧ c.idn.small) : Fun Tryz.prog 19 [agg (rowEp e), agg (rowChg c)] (tup [agg (rowEp e2), int f]) := by
  have := w_R24Apply (e := e) (c := c) hz hn hi; rw [h] at this; exact this
theorem riv_of {e : Ept} {c : Chg} {e2 : Ept} {b : Chg} {f : Int} {n : Nat} (h : doneR e c = (e2, b, f)) (hz : e.sz n) (hn : n ≤ 900000) (hi : c.idn.fits ∧ c.idn.small) : Fun Tryz.prog 21 [agg (rowEp e), agg (rowChg c)] (tup [agg (rowChg b), int f]) := by
  have := w_R24Inverse (e := e) (c := c) hz hn hi; rw [h] at this; exact this
theorem done_small {x a : Ept} {c b : Chg} {f : Int} {n : Nat} (h : doneR x c = (a, b, f)) (hz : x.sz n) (hi : c.idn.fits ∧ c.idn.small) : b.idn.small := by
  by_cases hf : f = 0
  · subst hf; exact (sz_done h hz hi).2.2
  · have := done_err (e := x) (c := c) (by rw [h]; exact hf)
    rw [h] at this
    have hb : b = zeroChg := this
    rw [hb]; exact id0_small

theorem w_ChangeAll {t : List Int} {raw : Chg} {e : Ept} (hraw : raw.idn.fits ∧ raw.idn.small) (hef : e.fits) (hei : ∀ x ∈ e.ids, x.small) (hel : (e.suites.length ≤ 17592186044416 ∧ e.ids.length ≤ 17592186044416) ∧ e.anchors.length ≤ 17592186044416 ∧ e.hashes.length ≤ 17592186044416) : Fun Tryz.prog 3 [ints t, agg (rowChg raw), agg (rowEp e)] (bool true) := by
 refine fo Tryz.func3 rfl ⟨rfl, rfl⟩ fun M0 w0 => ?_
 refine ac ?_
 refine ac ?_
 refine co rfl (kc1 (w_Light) rfl rfl) ?_
 refine ac ?_
 refine Ch.cs 25 rfl ?_ ?_ <;> intro h1 q1
 refine ac ?_
 refine wk4 0 4 5 49 rfl (Tr.cond rfl (fun _ => ?_) (fun h => nomatch h))
 refine Tr.seq (Tr.reg0 (co rfl (kc0 (w_awake24) rfl) ?_))
 refine ac ?_
 refine ac ?_
 · exact Pr.le_refl _
 refine ac ?_
 refine Ch.cs 32 rfl ?_ ?_ <;> intro h2 q2
 refine ac ?_
 refine wk4 0 4 5 49 rfl (Tr.cond rfl (fun _ => ?_) (fun h => nomatch h))
 refine Tr.seq (Tr.reg0 (co rfl (kc0 (w_awake24) rfl) ?_))
 refine ac ?_
 refine ac ?_
 · exact Pr.le_refl _
 refine ac ?_
 refine wk4 0 4 5 49 rfl ?_
 refine Tr.cn rfl ?_ ?_ <;> intro h3 q3
 refine Tr.seq (Tr.reg0 (co rfl (kc0 (w_awake24) rfl) ?_))
 refine ac ?_
 refine ac ?_
 · exact Pr.le_refl _
 have ht4 : t.length ≤ 400 := by simp_all
 have ht9 : t.length ≤ 1000000000 := by omega
 have hez : e.sz 2000 := by have hq_ := q3; exact ⟨hef.name, by omega, by omega, by omega, by omega, fun x hx => ⟨hef.ids x hx, hei x hx⟩⟩
 refine ac ?_
 refine ao ?_
 refine TO.pad ?_
 refine TO.efs 0 rfl rfl (by decide) (ef_call rfl rfl (by decide) rfl (w_Roll (l := t) ht9) ⟨ke rfl, trivial⟩) (fun v1 => ?_)
 refine TO.opn 52 0 _ rfl rfl (fun _ => rfl) (fun b1 => ?_)
 refine ao ?_
 refine ao ?_
 refine TO.efc 0 rfl rfl (by decide) (ef_callc rfl rfl (by decide) rfl (w_Sound) ⟨ke rfl, trivial⟩) ?_
 refine TO.ex 54 rfl (fun z1 => TO.fact 54 rfl fun hz1 => ?_)
 obtain ⟨e0, he00⟩ := at_ (l := z1) (k := 0) (by omega)
 have hse := sndE_sz (hz1.2 _ e0 he00)
 have he0 := hse.le (m := 2000) (by omega)
 have hmo : 0 ≤ e0.most ∧ e0.most ≤ 1000 := by have := (hz1.2 _ e0 he00).most; omega
 refine TO.alloc rfl rfl (by decide) rfl z41 zo41 (fun b2 => ?_)
 refine sf 0 8 ⟨rfl, rfl, rfl⟩ rfl rfl rfl rfl ?_
 refine TO.nil (Fin.openD 0 rfl (fun s1 => ?_))
 refine Fin.go (Tr.seq (Tr.seq (Tr.rx ?_)))
 refine ay ?_
 refine xo rfl (fun _ => ok_indexAddr rfl Tryz.underlying37 sz32 (vl rfl) (vl rfl) (by omega) (row_atI (f := rowEp) (i := 0) he00)) ?_
 refine ay ?_
 refine Cx.ef 0 rfl rfl (by decide) (ef_callc rfl rfl (by decide) rfl (w_mkEndpoint (by decide)) ⟨ke rfl, ke rfl, trivial⟩) ?_
 refine ay ?_
 refine xo rfl (fun _ => ok_indexAddr rfl Tryz.underlying37 sz32 (vl rfl) (vl rfl) (by omega) (row_atI (f := rowEp) (i := 0) he00)) (xo rfl (fun _ => ok_loadA rfl agg32 sz32 (vl rfl) rfl rfl) (Cx.ef 0 rfl rfl (by decide) (ef_callc rfl rfl (by decide) rfl (FunM.exd fun s_ => w_mkOdd (hse.le (by omega)) hmo) ⟨ke rfl, ke rfl, trivial⟩) (xo rfl (fun _ => ok_loadA rfl agg32 sz32 (vl rfl) rfl rfl) (xo rfl (fun _ => OpOK.opn 60 rfl (by decide) fun x2 => OpOK.opf 60 rfl (by decide) fun h2 => OpOK.opn 66 rfl (by decide) fun x3 => OpOK.opf 66 rfl (by decide) fun h3 => OpOK.le (ok_buildSlice (xs := [.tmp 58, .tmp 60, .tmp 66, .tmp 67]) (rows := [rowEp e0, rowEp x2, rowEp x3, rowEp e]) rfl rfl Tryz.underlying37 sz32 z32 rfl (by decide) ⟨⟨(by exact rfl), VL.le (vl rfl) (agg_cellsP _)⟩, ⟨⟨(by exact rfl), VL.le (vl rfl) (agg_cellsP _)⟩, ⟨⟨(by exact rfl), VL.le (vl rfl) (agg_cellsP _)⟩, ⟨⟨(by exact rfl), VL.le (vl rfl) (agg_cellsP _)⟩, trivial⟩⟩⟩⟩ (by decide)) ((ex_in x2 (ex_in x3 (fact_in ⟨h2, h3.sz⟩ (Pr.le_refl _))) : Pr.le _ (Cp.ex fun x2 : Ept => Cp.ex fun x3 : Ept => fact (x2.sz 2000 ∧ x3.sz 2000) (full 9 [rowEp e0, rowEp x2, rowEp x3, rowEp e]))))) ?_))))
 refine xo rfl (fun _ => OpOK.opn (p := int 4) 68 rfl (by decide) fun x2 => OpOK.opn 68 rfl (by decide) fun x3 => OpOK.opf 68 rfl (by decide) fun _ => OpOK.le (ok_len (rows := [rowEp e0, rowEp x2, rowEp x3, rowEp e]) rfl Tryz.underlying37 ⟨_, rfl, full_le _ _⟩) (int_eq rfl)) (xm rfl ?_)
 refine Cx.nil ⟨by kernel_rfl, ?_⟩
 refine FinX.done al1 (Fin.openD 0 rfl (fun s2 => ?_))
 refine Fin.go (wk6 4 7 8 68 69 70 rfl (Tr.block (Tr.ex 68 rfl fun x2 => (Tr.ex 68 rfl fun x3 => (Tr.fact 68 rfl fun hx23 => ?_)))))
 obtain ⟨l4, hl4, hz4⟩ : ∃ l : List Ept, l = [e0, x2, x3, e] ∧ ∀ x ∈ l, x.sz 2000 := ⟨_, rfl, by intro x hx; simp at hx; rcases hx with rfl | rfl | rfl | rfl; exact he0; exact hx23.1; exact hx23.2; exact hez⟩
 refine Tr.re 68 rfl (Pr.le_trans (full_le _ _) (Pr.le_of_eq (by rw [hl4]; rfl)) : Pr.le _ (slice 9 (l4.map rowEp))) ?_
 have h4_ : l4.length = 4 := (by rw [hl4]; rfl)
 refine Tr.re 69 rfl (int_eq (by rw [hl4]; rfl) : Pr.le _ (int ((l4.length : Nat) : Int))) ?_
 refine Tr.loopD2V0 [(4, _), (7, _), (8, _), (68, _), (69, _)] ⟨ke rfl, ke rfl, ke rfl, ke rfl, ke rfl, trivial⟩ (fun (k : Nat) (t2 : DS) => [(70, int ((k : Nat) : Int))]) (fun (k : Nat) (t2 : DS) => Hp M0 w0 noS ([diceS b1 t2])) (fun (k : Nat) (t2 : DS) => k ≤ l4.length) (fun (k : Nat) (t2 : DS) => l4.length - k) (0) (_)  (Nat.zero_le _) ⟨ke rfl, trivial⟩ (fun _ _ h => h) ?_
 rintro k t2  hk1
 refine ac ?_
 refine Tr.seq ?_
 refine Tr.cn rfl ?_ ?_ <;> intro h4 q4
 have hk_k : k < l4.length := by have := Nrm.nrm h4; omega
 obtain ⟨x, hx_k⟩ := at_ hk_k
 have hxz := hz4 x (List.mem_of_getElem? hx_k)
 refine ac ?_
 refine Tr.seq (Tr.block (Tr.seq (Tr.regT (tp rfl (ok_indexAddr rfl Tryz.underlying37 sz32 (vl rfl) (vl rfl) (by omega) (row_atI (f := rowEp) hx_k)) (tp rfl (ok_loadA rfl agg32 sz32 (vl rfl) rfl rfl) ?_)))))
 refine TO.alloc rfl rfl (by decide) rfl z32 zo32 (fun b3 => ?_)
 refine sf 0 10 ⟨rfl, rfl, rfl⟩ rfl rfl rfl rfl ?_
 refine ao ?_
 refine ao ?_
 refine TO.efc 0 rfl rfl (by decide) (ef_callc rfl rfl (by decide) rfl (w_Any (es := z1) hz1.2 ⟨by omega, by omega⟩) ⟨ke rfl, ke rfl, trivial⟩) ?_
 refine TO.ex 76 rfl (fun z2 => TO.fact 76 rfl fun hz2 => ?_)
 
 refine TO.alloc rfl rfl (by decide) rfl z29 zo29 (fun b4 => ?_)
 refine sf 0 11 ⟨rfl, rfl, rfl⟩ rfl rfl rfl rfl ?_
 refine TO.nil (Fin.openD 0 rfl (fun s3 => ?_))
 refine Fin.go (wk8 4 7 8 10 11 68 69 70 rfl (Tr.seq (Tr.rx ?_)))
 refine ay ?_
 refine Cx.ef 0 rfl rfl (by decide) (ef_callc rfl rfl (by decide) rfl (w_mvOdd ⟨hz2.fits, hz2.small⟩) ⟨ke rfl, ke rfl, trivial⟩) ?_
 refine ay ?_
 refine Cx.ef 0 rfl rfl (by decide) (ef_callc rfl rfl (by decide) rfl (FunM.exd fun s_ => w_Any (es := z1) hz1.2 ⟨by omega, by omega⟩) ⟨ke rfl, ke rfl, trivial⟩) ?_
 refine xo rfl (fun _ => ok_loadA rfl agg29 sz29 (vl rfl) rfl rfl) (xo rfl (fun _ => OpOK.opn 80 rfl (by decide) fun c2 => OpOK.opf 80 rfl (by decide) fun h2 => OpOK.opn 83 rfl (by decide) fun c3 => OpOK.opf 83 rfl (by decide) fun h3 => OpOK.le (ok_buildSlice (xs := [.tmp 77, .tmp 80, .tmp 83, .tmp 84]) (rows := [rowChg z2, rowChg c2, rowChg c3, rowChg raw]) rfl rfl Tryz.underlying47 sz29 z29 rfl (by decide) ⟨⟨(by exact rfl), VL.le (vl rfl) (agg_cellsP _)⟩, ⟨⟨(by exact rfl), VL.le (vl rfl) (agg_cellsP _)⟩, ⟨⟨(by exact rfl), VL.le (vl rfl) (agg_cellsP _)⟩, ⟨⟨(by exact rfl), VL.le (vl rfl) (agg_cellsP _)⟩, trivial⟩⟩⟩⟩ (by decide)) ((ex_in c2 (ex_in c3 (fact_in ⟨⟨h2.fits, h2.small⟩, ⟨h3.fits, h3.small⟩⟩ (Pr.le_refl _))) : Pr.le _ (Cp.ex fun c2 : Chg => Cp.ex fun c3 : Chg => fact ((c2.idn.fits ∧ c2.idn.small) ∧ (c3.idn.fits ∧ c3.idn.small)) (full 8 [rowChg z2, rowChg c2, rowChg c3, rowChg raw]))))) ?_)
 refine xo rfl (fun _ => OpOK.opn (p := int 4) 85 rfl (by decide) fun c2 => OpOK.opn 85 rfl (by decide) fun c3 => OpOK.opf 85 rfl (by decide) fun _ => OpOK.le (ok_len (rows := [rowChg z2, rowChg c2, rowChg c3, rowChg raw]) rfl Tryz.underlying47 ⟨_, rfl, full_le _ _⟩) (int_eq rfl)) (xm rfl ?_)
 refine Cx.nil ⟨by kernel_rfl, ?_⟩
 refine FinX.done al1 (Fin.openD 0 rfl (fun s4 => ?_))
 refine Fin.go (wk11 4 7 8 10 11 68 69 70 85 86 87 rfl (Tr.block (Tr.ex 85 rfl fun c2 => (Tr.ex 85 rfl fun c3 => (Tr.fact 85 rfl fun hc23 => ?_)))))
 obtain ⟨m4, hm4, hi4⟩ : ∃ l : List Chg, l = [z2, c2, c3, raw] ∧ ∀ x ∈ l, x.idn.fits ∧ x.idn.small := ⟨_, rfl, by intro x hx; simp at hx; rcases hx with rfl | rfl | rfl | rfl; exact ⟨hz2.fits, hz2.small⟩; exact hc23.1; exact hc23.2; exact hraw⟩
 refine Tr.re 85 rfl (Pr.le_trans (full_le _ _) (Pr.le_of_eq (by rw [hm4]; rfl)) : Pr.le _ (slice 8 (m4.map rowChg))) ?_
 have h5_ : m4.length = 4 := (by rw [hm4]; rfl)
 refine Tr.re 86 rfl (int_eq (by rw [hm4]; rfl) : Pr.le _ (int ((m4.length : Nat) : Int))) ?_
 refine Tr.loopw [(4, _), (7, _), (8, _), (10, _), (11, _), (68, _), (69, _), (70, _), (85, _), (86, _)] (kk10 rfl) (fun m : Nat => [(87, int ((m : Nat) : Int))]) (fun m : Nat => m ≤ (m4).length) (fun m : Nat => (m4).length - m) 0 (Nat.zero_le _) ⟨ke rfl, trivial⟩ ?_
 rintro m hle_m
 refine ac ?_
 refine Tr.seq ?_
 refine Tr.cn rfl ?_ ?_ <;> intro h5 q5
 have hk_m : m < (m4).length := lt_of_dec h5
 obtain ⟨c, hx_m⟩ := at_ hk_m
 have hci := hi4 c (List.mem_of_getElem? hx_m)
 obtain ⟨a2, b2, f2, hr⟩ : ∃ a b f, doneR x c = (a, b, f) := ⟨_, _, _, rfl⟩
 have hbs := done_small hr hxz hci
 refine ac ?_
 refine Tr.seq (Tr.block (Tr.seq (Tr.regT (tp rfl (ok_indexAddr rfl Tryz.underlying47 sz29 (vl rfl) (vl rfl) (by omega) (row_atI (f := rowChg) hx_m)) (tp rfl (ok_loadA rfl agg29 sz29 (vl rfl) rfl rfl) ?_)))))
 refine TO.alloc rfl rfl (by decide) rfl z29 zo29 (fun b5 => ?_)
 refine sf 0 13 ⟨rfl, rfl, rfl⟩ rfl rfl rfl rfl ?_
 refine ao ?_
 refine wk12 4 7 8 10 11 13 68 69 70 85 86 87 rfl ?_
 refine ao ?_
 refine tp rfl (kc2 (ap_of hr (hxz.fits) (hxz.small (by omega)) hci.1 hci.2) rfl rfl rfl) ?_
 refine ao ?_
 refine TO.alloc rfl rfl (by decide) rfl z32 zo32 (fun b6 => ?_)
 refine sf 0 14 ⟨rfl, rfl, rfl⟩ rfl rfl rfl rfl ?_
 refine ao ?_
 refine wk14 4 7 8 10 11 13 14 15 68 69 70 85 86 87 rfl ?_
 refine ao ?_
 refine tp rfl (kc2 (rap_of hr hxz (by omega) hci) rfl rfl rfl) ?_
 refine ao ?_
 refine TO.alloc rfl rfl (by decide) rfl z32 zo32 (fun b7 => ?_)
 refine sf 0 16 ⟨rfl, rfl, rfl⟩ rfl rfl rfl rfl ?_
 refine ao ?_
 refine wk16 4 7 8 10 11 13 14 15 16 17 68 69 70 85 86 87 rfl ?_
 refine ao ?_
 refine tp rfl (kc2 (iv_of hr (hxz.fits) (hxz.small (by omega)) hci.1 hci.2) rfl rfl rfl) ?_
 refine ao ?_
 refine TO.alloc rfl rfl (by decide) rfl z29 zo29 (fun b8 => ?_)
 refine sf 0 18 ⟨rfl, rfl, rfl⟩ rfl rfl rfl rfl ?_
 refine ao ?_
 refine wk18 4 7 8 10 11 13 14 15 16 17 18 19 68 69 70 85 86 87 rfl ?_
 refine ao ?_
 refine tp rfl (kc2 (riv_of hr hxz (by omega) hci) rfl rfl rfl) ?_
 refine ao ?_
 refine TO.alloc rfl rfl (by decide) rfl z29 zo29 (fun b9 => ?_)
 refine sf 0 20 ⟨rfl, rfl, rfl⟩ rfl rfl rfl rfl ?_
 refine ao ?_
 refine wk20 4 7 8 10 11 13 14 15 16 17 18 19 20 21 68 69 70 85 86 87 rfl ?_
 refine ac ?_
 refine Ch.cs 118 rfl ?_ ?_ <;> intro h6 q6
 exfalso; simp at h6
 refine ac ?_
 refine Ch.cs 123 rfl ?_ ?_ <;> intro h7 q7
 exfalso; simp at h7
 refine ac ?_
 refine cy h7 rfl (kc2 (w_R9Same) rfl rfl rfl) ?_
 refine ac ?_
 refine Ch.cs 129 rfl ?_ ?_ <;> intro h8 q8
 exfalso; simp at h8
 refine ac ?_
 refine cy h8 rfl (kc2 (w_R24Same hbs) rfl rfl rfl) ?_
 refine ac ?_
 refine Ch.cs 135 rfl ?_ ?_ <;> intro h9 q9
 exfalso; simp at h9
 refine ac ?_
 refine cy h9 rfl (kc2 (ck_of hr (hxz.fits) (hxz.small (by omega)) hci.1 hci.2) rfl rfl rfl) ?_
 refine ac ?_
 refine Ch.cs 142 rfl ?_ ?_ <;> intro h10 q10
 exfalso; simp at h10
 refine ac ?_
 refine cy h10 rfl (kc2 (w_Widens24 (hxz.fits) (hxz.small (by omega)) hci.1 hci.2) rfl rfl rfl) ?_
 refine ac ?_
 refine cy h10 rfl (kc2 (w_R24Widens hxz (by omega) hci) rfl rfl rfl) (cy h10 rfl (ok_neb rfl Tryz.underlying4 (vl rfl) (vl rfl)) ?_)
 refine ac ?_
 refine Ch.cs 151 rfl ?_ ?_ <;> intro h11 q11
 exfalso; simp at h11
 refine ac ?_
 refine cy h11 rfl (kc2 (w_ChSame) rfl rfl rfl) ?_
 refine ac ?_
 refine cy h11 rfl (kc2 (w_R24Same hci.2) rfl rfl rfl) (cy h11 rfl (ok_neb rfl Tryz.underlying4 (vl rfl) (vl rfl)) ?_)
 refine ac ?_
 refine wk12 4 7 8 10 11 68 69 70 85 86 87 159 rfl ?_
 refine Tr.cn rfl ?_ ?_ <;> intro h12 q12
 exfalso; simp at h12
 refine ac ?_
 refine ac ?_
 exact Fin.fam_same (m + 1) ⟨hk_m, by omega⟩ ⟨⟨_, rfl, int_succ m⟩, ke rfl, ke rfl, ke rfl, ke rfl, ke rfl, ke rfl, ke rfl, ke rfl, ke rfl, ke rfl, trivial⟩
 have he_m : m = (m4).length := by have := ge_of_dec h5; omega
 refine ac ?_
 refine ac ?_
 exact Fin.famD2V0 (k + 1) (_)  (⟨by omega, by omega⟩) ⟨⟨_, rfl, int_succ k⟩, ke rfl, ke rfl, ke rfl, ke rfl, ke rfl, trivial⟩ (fun _ _ h => h)
 have := h4
 refine ac ?_
 refine Tr.seq (Tr.reg0 (co rfl (kc0 (w_awake24) rfl) ?_))
 refine ac ?_
 refine ac ?_
 · exact Pr.le_refl _
theorem changeAll_lifted (os : Os) (started : os.Started) (H : Type) (enc : TypeId × Value → H) :
    ReturnsInHanded {} Tryz.checked os 3 .any (Rows.changeAllSpec.pre6 enc Tryz.prog Tryz.f3 Rows.changeAllRow.domain false) (Rows.changeAllSpec.post enc Tryz.prog Tryz.f3 false true false false) := by
  refine returnsInHanded_of_change_shaped (C := Tryz.checked) own0 started (by kernel_rfl) Tryz.func3
    (ChangeSpec.witness6 (enc := enc) (C := Tryz.checked) false ⟨#[], #[.slice none 0 0, .agg #[.int .i64 0, .int .i64 0, .int .i64 0, .int .i64 0, .int .i64 0, .int .i64 0, .int .i64 0, .slice none 0 0], .agg #[.string (ByteArray.mk #[]), .int .i64 0, .int .i64 0, .slice none 0 0, .bool false, .slice none 0 0, .slice none 0 0, .slice none 0 0, .bool false]], []⟩ 8 (by kernel_rfl) (by kernel_rfl) (by kernel_rfl) (by kernel_rfl)) ?_
  intro W base args ds gs before hval0 hW hcnd hwt _ _
  have hval : ∀ (j : Nat) t v, Tryz.f3.params[j]? = some t → args[j]? = some v → Value.okWide Tryz.prog W .any base t v := hval0
  have hW' := hW
  obtain ⟨p, q, hA0, hV, hpq, hfz, hnd⟩ := hW
  have hA : DataW.TrodAll enc Tryz.prog W 0 (fun _ => true) true Tryz.f3.params.toList args.toList ds p := hA0
  have hA' := hA
  rw [Tryz.params3] at hA hval
  obtain ⟨v0, v1, v2, d0, d1, d2, p0, p1, p2, rfl, rfl, hp, h0, h1, h2⟩ := trodAll_three hA
  obtain ⟨rfl, rfl⟩ := trodVars_none hV
  obtain ⟨a0, hr0, e0⟩ := argW_one ((opens_ints Tryz.underlying22 Tryz.underlying3 (by kernel_rfl)).w) h0 (light_at hwt (i := 0) (by kernel_rfl) rfl) (by obtain ⟨_, _, _, rfl⟩ := okWide_slice Tryz.underlying22 (hval 0 22 v0 rfl rfl); rfl)
  obtain ⟨a1, hr1, e1⟩ := argW_agg (opensW_chg) h1 (light_at hwt (i := 1) (by kernel_rfl) rfl) (by obtain ⟨cs, rfl, _⟩ := okWide_struct Tryz.underlying29 (hval 1 29 v1 rfl rfl); exact ⟨_, rfl⟩)
  obtain ⟨a2, hr2, e2⟩ := argW_agg (opensW_ept) h2 (light_at hwt (i := 2) (by kernel_rfl) rfl) (by obtain ⟨cs, rfl, _⟩ := okWide_struct Tryz.underlying32 (hval 2 32 v2 rfl rfl); exact ⟨_, rfl⟩)
  refine ((w_ChangeAll hr1 hr2.1.1 hr2.1.2 hr2.2).2 noM W [v0, v1, v2] (noM_bd W) ⟨e0, e1, e2, trivial⟩).mono fun e W' ⟨v, he, hv, hb⟩ => ?_
  subst he
  obtain rfl : v = .bool true := hv
  exact ⟨_, rfl, law_post laidOut0 (by kernel_rfl) rfl Tryz.underlying4 rfl hA' (by rw [hpq]; simp) hW' rfl hb⟩
theorem changeAll_fact_a : (Rows.changeAllRow.inPlace == Tryz.pinned.checked.prog.inPlace 3) = true := by kernel_rfl
theorem changeAll_fact_b : (Rows.changeAllRow.unfollowed == Tryz.pinned.checked.prog.unfollowed 3) = true := by kernel_rfl
theorem changeAll_fact_c : (Rows.changeAllRow.recurses == Tryz.pinned.checked.prog.recurses 3) = true := by kernel_rfl
theorem changeAll_fact_d : (Rows.changeAllRow.named == Tryz.pinned.checked.prog.varsNamed 3) = true := by kernel_rfl
theorem changeAll_facts : joinedFacts Tryz.pinned.checked.prog 3 Tryz.f3 Rows.changeAllSpec Rows.changeAllRow = true := by
  unfold joinedFacts
  rw [changeAll_fact_a, changeAll_fact_b, changeAll_fact_c, changeAll_fact_d]
  kernel_rfl
theorem changeAll_holds : Rows.ChangeAllSaid :=
  OpenClaim.holds_of_wide 3 Tryz.f3 rfl rfl rfl rfl rfl rfl rfl ⟨rfl, rfl, rfl, rfl, rfl⟩ rfl rfl rfl rfl rfl (by kernel_rfl) Tryz.func3 changeAll_facts
    (of_decide_eq_true (by kernel_rfl)) (by unfold Func.isWrapper; first | (rw [if_pos (by decide +kernel)]; kernel_rfl) | (rw [if_neg (by decide +kernel)]; exact ⟨rfl, rfl⟩))
    (fun os started H enc _ => changeAll_lifted os started H enc)
end Go.Proofs.YtppeeogffbpcbaaGreat
