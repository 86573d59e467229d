/-
  Part 5 of the texts that prove this claim, merged.
-/
import Derived.Test.YtppeeogffbpcbaaGreatHlAP4
set_option linter.all false
set_option maxRecDepth 40000
set_option maxHeartbeats 16000000
namespace Go.Proofs.YtppeeogffbpcbaaGreat
open Go Go.RowKit Cp Go.Proofs.Tryz
def zeroEp : Ept := ⟨[], 0, 0, [], false, [], [], [], false⟩
def zeroId : Idn := ⟨0, 0, 0, []⟩
def zeroChg : Chg := ⟨0, 0, 0, 0, zeroId⟩
abbrev back0 (c : Chg) : Chg := ⟨c.endpoint, 0, 0, 0, zeroId⟩
abbrev AscI (l : List Int) : Prop := l.Pairwise (· < ·)
/-- How many are before x. -/
def posI (l : List Int) (x : Int) : Nat := (l.takeWhile fun y => decide (y < x)).length
theorem posI_le (l : List Int) (x : Int) : posI l x ≤ l.length := by
 unfold posI
 have h := List.takeWhile_append_dropWhile (p := fun y => decide (y < x)) (l := l)
 have := congrArg List.length h
 rw [List.length_append] at this; omega
theorem posI_eq {x : Int} : ∀ {l : List Int} {k : Nat}, k ≤ l.length → (∀ (j : Nat) y, j < k → l[j]? = some y → y < x) → (∀ y, l[k]? = some y → ¬ y < x) → posI l x = k
  | [], k, hk, _, _ => by have : k = 0 := by simpa using hk
                          subst this; rfl
  | y :: r, 0, _, _, h2 => by unfold posI; rw [List.takeWhile_cons_of_neg (by simpa using h2 y rfl)]; rfl
  | y :: r, k + 1, hk, h1, h2 => by
    have ih := posI_eq (l := r) (k := k) (by simpa using hk) (fun j z hj hz => h1 (j + 1) z (by omega) (by simpa using hz)) (fun z hz => h2 z (by simpa using hz))
    unfold posI at ih ⊢
    rw [List.takeWhile_cons_of_pos (by simpa using h1 0 y (by omega) rfl), List.length_cons, ih]
theorem posI_lt {x : Int} : ∀ {l : List Int} {j : Nat} {y : Int}, j < posI l x → l[j]? = some y → y < x
 | [], j, y, h, _ => by unfold posI at h; simp at h
 | z :: r, j, y, h, hy => by
  by_cases hz : z < x
  ·
   cases j with
   | zero => simp at hy; subst hy; exact hz
   | succ j =>
    refine posI_lt (l := r) (j := j) ?_ (by simpa using hy)
    unfold posI at h ⊢
    rw [List.takeWhile_cons_of_pos (by simpa using hz), List.length_cons] at h; omega
  · unfold posI at h; rw [List.takeWhile_cons_of_neg (by simpa using hz)] at h; simp at h
theorem posI_ge {x : Int} : ∀ {l : List Int} {y : Int}, l[posI l x]? = some y → ¬ y < x
 | [], y, h => by simp at h
 | z :: r, y, h => by
  by_cases hz : z < x
  ·
   unfold posI at h
   rw [List.takeWhile_cons_of_pos (by simpa using hz), List.length_cons, List.getElem?_cons_succ] at h
   exact posI_ge (l := r) h
  · unfold posI at h; rw [List.takeWhile_cons_of_neg (by simpa using hz)] at h; simp at h; subst h; exact hz
abbrev hasX (l : List Int) (x : Int) : Bool := (l[posI l x]?).any (fun y => decide (y = x))
abbrev insX (l : List Int) (x : Int) : List Int := l.take (posI l x) ++ [x] ++ l.drop (posI l x)
theorem ascI_lt {l : List Int} (hs : AscI l) {j k : Nat} {y z : Int} (hjk : j < k) (hy : l[j]? = some y) (hz : l[k]? = some z) : y < z := by
 have h1 := lt_of_at hy; have h2 := lt_of_at hz
 have := List.pairwise_iff_getElem.1 hs j k h1 h2 hjk
 rw [List.getElem?_eq_getElem h1] at hy; rw [List.getElem?_eq_getElem h2] at hz
 cases hy; cases hz; exact this
theorem bsI_lt {l : List Int} {x : Int} (hs : AscI l) {h : Nat} {y : Int} (hy : l[h]? = some y) (hyx : y < x) : ∀ (k : Nat) z, k < h + 1 → l[k]? = some z → z < x := by
 intro k z hk hz
 rcases Nat.lt_or_eq_of_le (Nat.le_of_lt_succ hk) with h1 | h1
 · have := ascI_lt hs h1 hz hy; omega
 · subst h1; rw [hy] at hz; cases hz; exact hyx
theorem bsI_ge {l : List Int} {x : Int} (hs : AscI l) {h : Nat} {y : Int} (hy : l[h]? = some y) (hyx : ¬ y < x) : ∀ (k : Nat) z, h ≤ k → l[k]? = some z → ¬ z < x := by
 intro k z hk hz hzx
 rcases Nat.lt_or_eq_of_le hk with h1 | h1
 · have := ascI_lt hs h1 hy hz; omega
 · subst h1; rw [hy] at hz; cases hz; exact hyx hzx
theorem hasX_end {l : List Int} {x : Int} {i : Nat} (hp : posI l x = i) (hi : l.length ≤ i) : hasX l x = false := by
 unfold hasX; rw [hp, List.getElem?_eq_none hi]; rfl
theorem hasX_at {l : List Int} {x : Int} {i : Nat} {y : Int} (hp : posI l x = i) (hy : l[i]? = some y) : hasX l x = decide (y = x) := by
 unfold hasX; rw [hp, hy]; rfl
theorem ascI_of {l : List Int} (h : ascB l = true) : AscI l := by
 unfold ascB at h; rw [allI_iff] at h
 have h1 : ∀ (d i : Nat) y z, l[i]? = some y → l[i + d + 1]? = some z → y < z := by
  intro d
  induction d with
  | zero =>
   intro i y z hy hz
   have := h (i + 1) (lt_of_at hz)
   unfold ascAt at this
   rw [getD_at (show l[i + 1]? = some z from hz), getD_at (show l[i + 1 - 1]? = some y from hy)] at this
   simpa using this
  | succ d ih =>
   intro i y z hy hz
   obtain ⟨m, hm⟩ := at_ (l := l) (k := i + d + 1) (by have := lt_of_at hz; omega)
   have a1 := ih i y m hy hm
   have := h (i + (d + 1) + 1) (lt_of_at hz)
   unfold ascAt at this
   rw [getD_at hz, getD_at (show l[i + (d + 1) + 1 - 1]? = some m from hm)] at this
   have : m < z := by simpa using this
   omega
 refine List.pairwise_iff_getElem.2 fun i j hi hj hij => ?_
 refine h1 (j - i - 1) i _ _ (List.getElem?_eq_getElem hi) ?_
 rw [show i + (j - i - 1) + 1 = j by omega]; exact List.getElem?_eq_getElem hj

theorem w_isNaNi {a : Int}  : Fun prog 280 [int a] (bool false) := by
 refine fo func280 rfl ⟨rfl, rfl⟩ fun M0 w0 => ?_
 refine a3 ?_
 · refine bool_eq ?_; simp_all
theorem w_SisNaNi {a : Int}  : Fun prog 292 [int a] (bool false) := by
 refine fo func292 rfl ⟨rfl, rfl⟩ fun M0 w0 => ?_
 refine a3 ?_
 · refine bool_eq ?_; simp_all
theorem w_BSP {l : List Int} {x : Int} (hs : AscI l) (hl : l.length ≤ 1000000) : Fun prog 262 [ints l, int x] (tup [int ((posI l x : Nat) : Int), bool (hasX l x)]) := by
 refine fo func262 rfl ⟨rfl, rfl⟩ fun M0 w0 => (Tr.lenm 0 rfl fun hlm_0 => ?_)
 refine a3 ?_
 refine Tr.seq (Tr.block ?_)
 refine Tr.loopD2V0 [(0, _), (1, _), (6, _)] ⟨ke rfl, ke rfl, ke rfl, trivial⟩ (fun (i : Nat) (j : Nat) => [(7, int ((i : Nat) : Int)), (8, int ((j : Nat) : Int))]) (fun (i : Nat) (j : Nat) => Hp M0 w0 noS ([])) (fun (i : Nat) (j : Nat) => i ≤ j ∧ j ≤ l.length ∧ (∀ (k : Nat) y, k < i → l[k]? = some y → y < x) ∧ (∀ (k : Nat) y, j ≤ k → l[k]? = some y → ¬ y < x)) (fun (i : Nat) (j : Nat) => j - i) (0) (l.length)  (⟨Nat.zero_le _, Nat.le_refl _, fun k y h => absurd h (Nat.not_lt_zero _), fun k y h1 h2 => by rw [List.getElem?_eq_none h1] at h2; cases h2⟩) ⟨ke rfl, ke rfl, trivial⟩ (fun _ _ h => h) ?_
 rintro i j  ⟨hi1, hi2, hi3, hi4⟩
 refine an ?_ ?_ <;> intro h1 q1
 have hij : i < j := by have := of_decide_eq_true h1; omega
 obtain ⟨y, hyn⟩ := at_ (l := l) (k := (i + j) / 2) (by omega)
 have hy : l[((((i : Nat) : Int) + ((j : Nat) : Int)) / 2).toNat]? = some y := by rw [show ((((i : Nat) : Int) + ((j : Nat) : Int)) / 2).toNat = (i + j) / 2 by omega]; exact hyn
 refine a2 ?_
 refine co rfl (ok_convU rfl underlying3 underlying251 (vl rfl) (by omega) (by omega)) (co rfl (ok_half rfl (vl rfl) (vl rfl) (by omega)) ?_)
 refine co rfl (ok_convI rfl underlying251 underlying3 (vl rfl) (by unfold InI; omega)) ?_
 refine ac ?_
 refine wk6 0 1 6 7 8 9 rfl ?_
 refine ac ?_
 refine co rfl (ok_indexAddr rfl underlying22 sz3 (vl rfl) (vl rfl) (by omega) (row_atI (f := fun n : Int => [int n]) hy)) ?_
 refine ac ?_
 refine co rfl (kc2 (w_lessI) rfl rfl rfl) ?_
 refine an ?_ ?_ <;> intro h2 q2
 have hlt := of_decide_eq_true h2
 refine ac ?_
 exact Fin.famD2V0 ((i + j) / 2 + 1) (j)  (⟨⟨by omega, by omega, bsI_lt hs hyn hlt, hi4⟩, by omega⟩) ⟨⟨_, rfl, int_eq (by omega)⟩, ⟨_, rfl, int_eq (by omega)⟩, ke rfl, ke rfl, ke rfl, trivial⟩ (fun _ _ h => h)
 have hlt := of_decide_eq_false h2
 refine ac ?_
 exact Fin.famD2V0 (i) ((i + j) / 2)  (⟨⟨by omega, by omega, hi3, bsI_ge hs hyn hlt⟩, by omega⟩) ⟨⟨_, rfl, int_eq (by omega)⟩, ⟨_, rfl, int_eq (by omega)⟩, ke rfl, ke rfl, ke rfl, trivial⟩ (fun _ _ h => h)
 obtain rfl : i = j := (by have := of_decide_eq_false h1; omega)
 have hp : posI l x = i := posI_eq (by omega) hi3 (fun y hy => hi4 i y (by omega) hy)
 refine ac ?_
 refine ag ?_ ?_ <;> intro h3 q3
 obtain ⟨y, hyi⟩ := at_ (l := l) (k := i) (by have := q3; simp at this; omega)
 refine ac ?_
 refine cy h3 rfl (ok_indexAddr rfl underlying22 sz3 (vl rfl) (vl rfl) (by omega) (row_atI (f := fun n : Int => [int n]) (by rw [Int.toNat_natCast]; exact hyi))) ?_
 refine ag ?_ ?_ <;> intro h4 q4
 refine ac ?_
 refine wk2 4 5 rfl (Tr.ret (Fin.ret2 rfl (OutW.bse _ _) rfl ?_ rfl ?_))
 · exact int_eq (by rw [hp])
 · refine bool_eq ?_; rw [hasX_at hp hyi]; symm; rw [decide_eq_true_eq]; simp_all
 refine ac ?_
 refine cy h4 rfl (ok_indexAddr rfl underlying22 sz3 (vl rfl) (vl rfl) (by omega) (row_atI (f := fun n : Int => [int n]) (by rw [Int.toNat_natCast]; exact hyi))) ?_
 refine cy h4 rfl (kl1 rfl one3 rfl) (cy h4 rfl (kc1 (w_SisNaNi) rfl rfl) (cym h4 rfl ?_))
 refine Ch.cs 48 rfl ?_ ?_ <;> intro h5 q5
 exact absurd h5 (by decide)
 refine ac ?_
 refine wk2 4 5 rfl (Tr.ret (Fin.ret2 rfl (OutW.bse _ _) rfl ?_ rfl ?_))
 · exact int_eq (by rw [hp])
 · refine bool_eq ?_; rw [hasX_at hp hyi]; symm; rw [decide_eq_false_iff_not]; simp_all
 refine ac ?_
 refine wk2 4 5 rfl (Tr.ret (Fin.ret2 rfl (OutW.bse _ _) rfl ?_ rfl ?_))
 · exact int_eq (by rw [hp])
 · refine bool_eq ?_; rw [hasX_end hp (by omega)]
theorem w_BSWi {l : List Int} {x : Int} {v : Value} (hs : AscI l) (hl : l.length ≤ 1000000) : FunM Tryz.prog 262 [is v, int x] (tup [int ((posI l x : Nat) : Int), bool (hasX l x)]) (oweRes 3 1 (l.map fun n => [int n]) v) (fun _ => oweRes 3 1 (l.map fun n => [int n]) v) := FunM.owe_pure (map_rows fun _ => rfl) (w_BSP hs hl)
theorem w_insIBad {e : Ept} {x at_ : Int} {ob : Nat} {v : Value} {p5 p6 p7 : Pr}  (hr : ¬ (0 ≤ at_ ∧ at_ ≤ (e.suites.length : Nat))) : FunD prog 206 [ptr ob 3, int at_, int x] [resO ob e (is v) p5 p6 p7, oweRes 3 1 (e.suites.map fun n => [int n]) v] (int 2) [] := by
 refine FunD.of func206 rfl rfl (by exact Nb rfl) fun M0 w0 S rs M1 w1 => (Tr.seq ?_)
 have hml : (e.suites.map fun n => [int n]).length = e.suites.length := List.length_map _
 refine ac ?_
 refine ag ?_ ?_ <;> intro h1 q1
 have hq9 := q1
 refine a2 ?_
 refine Tr.ret (Fin.then_ret (Fin.drop 0 (Fin.drop 0 (Fin.retD rfl (RVal.tmp rfl (Lr)) ?_ (List.Perm.refl _)))))
 · exact Lr
 refine ac ?_
 refine cy h1 rfl (ok_rd 1 rfl (rd_lenW rfl underlying22 (vl rfl))) ?_
 refine an ?_ ?_ <;> intro h2 q2
 refine ac ?_
 refine Tr.ret (Fin.then_ret (Fin.drop 0 (Fin.drop 0 (Fin.retD rfl (RVal.tmp rfl (Lr)) ?_ (List.Perm.refl _)))))
 · exact Lr
 exfalso; simp_all
theorem w_insIOk {e : Ept} {x at_ : Int} {ob : Nat} {v : Value} {p5 p6 p7 : Pr}  (hr : 0 ≤ at_ ∧ at_ ≤ (e.suites.length : Nat)) (hl : e.suites.length ≤ 1000000) : FunD prog 206 [ptr ob 3, int at_, int x] [resO ob e (is v) p5 p6 p7, oweRes 3 1 (e.suites.map fun n => [int n]) v] (int 0) [resO ob e (ints (e.suites.take at_.toNat ++ [x] ++ e.suites.drop at_.toNat)) p5 p6 p7] := by
 refine FunD.of func206 rfl rfl (by exact Nb rfl) fun M0 w0 S rs M1 w1 => (Tr.seq ?_)
 have hml : (e.suites.map fun n => [int n]).length = e.suites.length := List.length_map _
 refine ac ?_
 refine ag ?_ ?_ <;> intro h1 q1
 exfalso; have := q1; omega
 refine ac ?_
 refine cy h1 rfl (ok_rd 1 rfl (rd_lenW rfl underlying22 (vl rfl))) ?_
 refine an ?_ ?_ <;> intro h2 q2
 exfalso; simp_all; omega
 refine ac ?_
 refine ap ?_
 refine TO.efc 1 rfl rfl (by decide) (ef_callc rfl rfl (by decide) rfl (w_InsWi (l := e.suites) (x := x) (i := at_.toNat) (by omega) hl) ⟨ke rfl, ⟨_, rfl, int_eq (by omega)⟩, (Kf rfl), trivial⟩) ?_
 refine ap ?_
 refine Tr.weak [] trivial ?_
 refine ac ?_
 refine Tr.ret (Fin.drop 1 (Fin.retD rfl (RVal.tmp rfl (Lr)) ?_ (List.Perm.refl _)))
 · exact Lr
theorem w_addSuiteR {e : Ept} {c b : Chg} {wb ob : Nat} {v : Value} {p5 p6 p7 : Pr}  (hr : ¬ (0 ≤ c.at_ ∧ c.at_ ≤ (e.suites.length : Nat))) : FunD prog 167 [ptr wb 0] [resW wb ob c b, resO ob e (is v) p5 p6 p7, oweRes 3 1 (e.suites.map fun n => [int n]) v] (int 2) [] := by
 refine FunD.of func167 rfl rfl (by exact Nb rfl) fun M0 w0 S rs M1 w1 => ?_
 refine ac ?_
 refine Tr.seq (Tr.rx ?_)
 refine ay ?_
 refine Cx.ef 2 rfl rfl (by decide) (ef_callc rfl rfl (by decide) rfl (w_HasWi (l := e.suites)) ⟨ke rfl, ke rfl, trivial⟩) ?_
 refine xm rfl ?_
 refine Cx.nil ⟨by kernel_rfl, ?_⟩
 refine FinX.done al4 (Fin.go (wk2 0 3 rfl (Tr.seq (Tr.seq (Tr.regOne mixed 16 (by kernel_rfl) (ChOne.op rfl rfl (by decide) (ok_move rfl (vl rfl)) (ChOne.op rfl rfl (by decide) (okp_nilCheck rfl (vl rfl)) (ChOne.op rfl rfl (by decide) (okp_fieldAddr rfl fo159_0 (vl rfl)) (ChOne.op rfl rfl (by decide) (ok_rd 0 rfl (rd_load1 rfl one157 (vl rfl) rfl)) (ChOne.op rfl rfl (by decide) (okp_nilCheck rfl (vl rfl)) (ChOne.op rfl rfl (by decide) (okp_fieldAddr rfl fo32_3 (vl rfl)) (ChOne.op rfl rfl (by decide) (ok_move rfl (vl rfl)) (ChOne.op rfl rfl (by decide) (okp_nilCheck rfl (vl rfl)) ?_)))))))))))))
 refine ChOne.op rfl rfl (by decide) (okp_fieldAddr rfl fo159_1 (vl rfl)) (ChOne.op rfl rfl (by decide) (okp_fieldAddr rfl fo29_3 (vl rfl)) (ChOne.op rfl rfl (by decide) (ok_rd 0 rfl (rd_load1 rfl one3 (vl rfl) rfl)) (ChOne.op rfl rfl (by decide) (ok_move rfl (vl rfl)) (ChOne.op rfl rfl (by decide) (okp_nilCheck rfl (vl rfl)) (ChOne.op rfl rfl (by decide) (okp_fieldAddr rfl fo159_1 (vl rfl)) (ChOne.op rfl rfl (by decide) (okp_fieldAddr rfl fo29_2 (vl rfl)) (ChOne.op rfl rfl (by decide) (ok_rd 0 rfl (rd_load1 rfl one3 (vl rfl) rfl)) ?_)))))))
 refine ChOne.turn _ rfl (by decide) (turn_call _ rfl rfl (w_insIBad (e := e) (x := c.number) (at_ := c.at_) hr) ⟨ke rfl, ke rfl, ke rfl, trivial⟩ ((perm_at (j := 1) rfl).trans (List.Perm.cons _ ((perm_at (j := 1) rfl).trans (List.Perm.cons _ (List.Perm.refl _)))))) ?_
 refine ac ?_
 refine wk3 0 3 4 rfl ?_
 refine an ?_ ?_ <;> intro h1 q1
 refine ac ?_
 refine Tr.ret (Fin.then_ret (Fin.drop 0 (Fin.retD rfl (RVal.tmp rfl (Lr)) ?_ (List.Perm.refl _))))
 · exact Lr
 exact absurd h1 (by decide)
theorem w_addSuiteT {e : Ept} {c b : Chg} {wb ob : Nat} {v : Value} {p5 p6 p7 : Pr}  (hr : 0 ≤ c.at_ ∧ c.at_ ≤ (e.suites.length : Nat)) (hl : e.suites.length ≤ 1000000) (h : (e.suites.any fun y => c.number == y) = true) : FunD prog 167 [ptr wb 0] [resW wb ob c b, resO ob e (is v) p5 p6 p7, oweRes 3 1 (e.suites.map fun n => [int n]) v] (int 41) [] := by
 refine FunD.of func167 rfl rfl (by exact Nb rfl) fun M0 w0 S rs M1 w1 => ?_
 refine ac ?_
 refine Tr.seq (Tr.rx ?_)
 refine ay ?_
 refine Cx.ef 2 rfl rfl (by decide) (ef_callc rfl rfl (by decide) rfl (w_HasWi (l := e.suites)) ⟨ke rfl, ke rfl, trivial⟩) ?_
 refine xm rfl ?_
 refine Cx.nil ⟨by kernel_rfl, ?_⟩
 refine FinX.done al4 (Fin.go (wk2 0 3 rfl (Tr.seq (Tr.seq (Tr.regOne mixed 16 (by kernel_rfl) (ChOne.op rfl rfl (by decide) (ok_move rfl (vl rfl)) (ChOne.op rfl rfl (by decide) (okp_nilCheck rfl (vl rfl)) (ChOne.op rfl rfl (by decide) (okp_fieldAddr rfl fo159_0 (vl rfl)) (ChOne.op rfl rfl (by decide) (ok_rd 0 rfl (rd_load1 rfl one157 (vl rfl) rfl)) (ChOne.op rfl rfl (by decide) (okp_nilCheck rfl (vl rfl)) (ChOne.op rfl rfl (by decide) (okp_fieldAddr rfl fo32_3 (vl rfl)) (ChOne.op rfl rfl (by decide) (ok_move rfl (vl rfl)) (ChOne.op rfl rfl (by decide) (okp_nilCheck rfl (vl rfl)) ?_)))))))))))))
 refine ChOne.op rfl rfl (by decide) (okp_fieldAddr rfl fo159_1 (vl rfl)) (ChOne.op rfl rfl (by decide) (okp_fieldAddr rfl fo29_3 (vl rfl)) (ChOne.op rfl rfl (by decide) (ok_rd 0 rfl (rd_load1 rfl one3 (vl rfl) rfl)) (ChOne.op rfl rfl (by decide) (ok_move rfl (vl rfl)) (ChOne.op rfl rfl (by decide) (okp_nilCheck rfl (vl rfl)) (ChOne.op rfl rfl (by decide) (okp_fieldAddr rfl fo159_1 (vl rfl)) (ChOne.op rfl rfl (by decide) (okp_fieldAddr rfl fo29_2 (vl rfl)) (ChOne.op rfl rfl (by decide) (ok_rd 0 rfl (rd_load1 rfl one3 (vl rfl) rfl)) ?_)))))))
 refine ChOne.turn _ rfl (by decide) (turn_call _ rfl rfl (w_insIOk (e := e) (x := c.number) (at_ := c.at_) hr hl) ⟨ke rfl, ke rfl, ke rfl, trivial⟩ ((perm_at (j := 1) rfl).trans (List.Perm.cons _ ((perm_at (j := 1) rfl).trans (List.Perm.cons _ (List.Perm.refl _)))))) ?_
 refine ac ?_
 refine wk3 0 3 4 rfl ?_
 refine an ?_ ?_ <;> intro h1 q1
 exact absurd h1 (by decide)
 refine ac ?_
 refine an ?_ ?_ <;> intro h2 q2
 refine ac ?_
 refine Tr.ret (Fin.then_ret (Fin.drop 0 (Fin.drop 0 (Fin.retD rfl (RVal.tmp rfl (Lr)) ?_ (List.Perm.refl _)))))
 · exact Lr
 rw [h] at h2; exact absurd h2 (by decide)
theorem w_addSuiteY {e : Ept} {c b : Chg} {wb ob : Nat} {v : Value} {p5 p6 p7 : Pr}  (hr : 0 ≤ c.at_ ∧ c.at_ ≤ (e.suites.length : Nat)) (hl : e.suites.length ≤ 1000000) (h : (e.suites.any fun y => c.number == y) = false) : FunD prog 167 [ptr wb 0] [resW wb ob c b, resO ob e (is v) p5 p6 p7, oweRes 3 1 (e.suites.map fun n => [int n]) v] (int 0) [resO ob e (ints (e.suites.take c.at_.toNat ++ [c.number] ++ e.suites.drop c.at_.toNat)) p5 p6 p7, resW wb ob c ⟨b.endpoint, 2, c.number, b.at_, b.idn⟩] := by
 refine FunD.of func167 rfl rfl (by exact Nb rfl) fun M0 w0 S rs M1 w1 => ?_
 refine ac ?_
 refine Tr.seq (Tr.rx ?_)
 refine ay ?_
 refine Cx.ef 2 rfl rfl (by decide) (ef_callc rfl rfl (by decide) rfl (w_HasWi (l := e.suites)) ⟨ke rfl, ke rfl, trivial⟩) ?_
 refine xm rfl ?_
 refine Cx.nil ⟨by kernel_rfl, ?_⟩
 refine FinX.done al4 (Fin.go (wk2 0 3 rfl (Tr.seq (Tr.seq (Tr.regOne mixed 16 (by kernel_rfl) (ChOne.op rfl rfl (by decide) (ok_move rfl (vl rfl)) (ChOne.op rfl rfl (by decide) (okp_nilCheck rfl (vl rfl)) (ChOne.op rfl rfl (by decide) (okp_fieldAddr rfl fo159_0 (vl rfl)) (ChOne.op rfl rfl (by decide) (ok_rd 0 rfl (rd_load1 rfl one157 (vl rfl) rfl)) (ChOne.op rfl rfl (by decide) (okp_nilCheck rfl (vl rfl)) (ChOne.op rfl rfl (by decide) (okp_fieldAddr rfl fo32_3 (vl rfl)) (ChOne.op rfl rfl (by decide) (ok_move rfl (vl rfl)) (ChOne.op rfl rfl (by decide) (okp_nilCheck rfl (vl rfl)) ?_)))))))))))))
 refine ChOne.op rfl rfl (by decide) (okp_fieldAddr rfl fo159_1 (vl rfl)) (ChOne.op rfl rfl (by decide) (okp_fieldAddr rfl fo29_3 (vl rfl)) (ChOne.op rfl rfl (by decide) (ok_rd 0 rfl (rd_load1 rfl one3 (vl rfl) rfl)) (ChOne.op rfl rfl (by decide) (ok_move rfl (vl rfl)) (ChOne.op rfl rfl (by decide) (okp_nilCheck rfl (vl rfl)) (ChOne.op rfl rfl (by decide) (okp_fieldAddr rfl fo159_1 (vl rfl)) (ChOne.op rfl rfl (by decide) (okp_fieldAddr rfl fo29_2 (vl rfl)) (ChOne.op rfl rfl (by decide) (ok_rd 0 rfl (rd_load1 rfl one3 (vl rfl) rfl)) ?_)))))))
 refine ChOne.turn _ rfl (by decide) (turn_call _ rfl rfl (w_insIOk (e := e) (x := c.number) (at_ := c.at_) hr hl) ⟨ke rfl, ke rfl, ke rfl, trivial⟩ ((perm_at (j := 1) rfl).trans (List.Perm.cons _ ((perm_at (j := 1) rfl).trans (List.Perm.cons _ (List.Perm.refl _)))))) ?_
 refine ac ?_
 refine wk3 0 3 4 rfl ?_
 refine an ?_ ?_ <;> intro h1 q1
 exact absurd h1 (by decide)
 refine ac ?_
 refine an ?_ ?_ <;> intro h2 q2
 rw [h] at h2; exact absurd h2 (by decide)
 refine ac ?_
 refine ap ?_
 refine Tr.weak [] trivial ?_
 refine ac ?_
 refine Tr.ret (Fin.retD rfl (RVal.tmp rfl (Lr)) ?_ (List.Perm.refl _))
 · exact Lr
theorem hasX_lt {l : List Int} {x : Int} (h : hasX l x = true) : posI l x < l.length := by
 by_cases hp : posI l x < l.length
 · exact hp
 · unfold hasX at h; rw [List.getElem?_eq_none (by omega)] at h; cases h
theorem w_add6T {e : Ept} {c b : Chg} {wb ob : Nat} {v : Value} {p3 p5 p7 : Pr} {bk : Int}  (hs : AscI e.anchors) (hl : e.anchors.length ≤ 1000000) (h : hasX e.anchors c.number = true) : FunD prog 215 [ptr wb 0, ptr ob 6, int bk] [resW wb ob c b, resO ob e p3 p5 (is v) p7, oweRes 3 1 (e.anchors.map fun n => [int n]) v] (int 41) [] := by
 refine FunD.of func215 rfl rfl (by exact Nb rfl) fun M0 w0 S rs M1 w1 => ?_
 refine ac ?_
 refine Tr.seq (Tr.rx ?_)
 refine ay ?_
 refine Cx.ef 2 rfl rfl (by decide) (ef_callc rfl rfl (by decide) rfl (w_BSWi (l := e.anchors) hs hl) ⟨ke rfl, ke rfl, trivial⟩) ?_
 refine ay ?_
 refine Cx.nil ⟨by kernel_rfl, ?_⟩
 refine FinX.done al4 (Fin.go (wk5 0 1 2 7 8 rfl ?_))
 refine an ?_ ?_ <;> intro h1 q1
 refine ac ?_
 refine Tr.ret (Fin.then_ret (Fin.drop 0 (Fin.drop 0 (Fin.drop 0 (Fin.retD rfl (RVal.tmp rfl (Lr)) ?_ (List.Perm.refl _))))))
 · exact Lr
 rw [h] at h1; exact absurd h1 (by decide)
theorem w_addAnchorT {e : Ept} {c b : Chg} {wb ob : Nat} {v : Value} {p3 p5 p7 : Pr}  (hs : AscI e.anchors) (hl : e.anchors.length ≤ 1000000) (h : hasX e.anchors c.number = true) : FunD prog 173 [ptr wb 0] [resW wb ob c b, resO ob e p3 p5 (is v) p7, oweRes 3 1 (e.anchors.map fun n => [int n]) v] (int 41) [] := by
 refine FunD.of func173 rfl rfl (by exact Nb rfl) fun M0 w0 S rs M1 w1 => ?_
 refine ac ?_
 refine ap ?_
 refine TO.callD _ rfl rfl (by decide) rfl (w_add6T (e := e) (c := c) (b := b) hs hl h) ⟨ke rfl, ke rfl, ke rfl, trivial⟩ ((perm_at (j := 0) rfl).trans (List.Perm.cons _ ((perm_at (j := 0) rfl).trans (List.Perm.cons _ ((perm_at (j := 0) rfl).trans (List.Perm.cons _ (List.Perm.refl _))))))) ?_
 refine ap ?_
 refine Tr.ret (Fin.retD rfl (RVal.tmp rfl (Lr)) ?_ (List.Perm.refl _))
 · exact Lr
theorem w_add6Y {e : Ept} {c b : Chg} {wb ob : Nat} {v : Value} {p3 p5 p7 : Pr} {bk : Int}  (hs : AscI e.anchors) (hl : e.anchors.length ≤ 1000000) (h : hasX e.anchors c.number = false) : FunD prog 215 [ptr wb 0, ptr ob 6, int bk] [resW wb ob c b, resO ob e p3 p5 (is v) p7, oweRes 3 1 (e.anchors.map fun n => [int n]) v] (int 0) [resW wb ob c ⟨b.endpoint, bk, c.number, b.at_, b.idn⟩, resO ob e p3 p5 (ints (insX e.anchors c.number)) p7] := by
 refine FunD.of func215 rfl rfl (by exact Nb rfl) fun M0 w0 S rs M1 w1 => ?_
 refine ac ?_
 refine Tr.seq (Tr.rx ?_)
 refine ay ?_
 refine Cx.ef 2 rfl rfl (by decide) (ef_callc rfl rfl (by decide) rfl (w_BSWi (l := e.anchors) hs hl) ⟨ke rfl, ke rfl, trivial⟩) ?_
 refine ay ?_
 refine Cx.nil ⟨by kernel_rfl, ?_⟩
 refine FinX.done al4 (Fin.go (wk5 0 1 2 7 8 rfl ?_))
 refine an ?_ ?_ <;> intro h1 q1
 rw [h] at h1; exact absurd h1 (by decide)
 refine ac ?_
 refine Tr.seq (Tr.rx ?_)
 refine ay ?_
 refine xo rfl (fun _ => ok_buildSlice (xs := [.tmp 31]) (rows := [[_]]) rfl rfl underlying22 sz3 z3 rfl (by decide) ⟨⟨(by exact rfl), (Vo rfl)⟩, trivial⟩ (by decide)) ?_
 refine Cx.ef 2 rfl rfl (by decide) (ef_callc rfl rfl (by decide) rfl (w_InsWi (l := e.anchors) (x := c.number) (i := posI e.anchors c.number) (posI_le _ _) hl) ⟨ke rfl, ke rfl, (Kf rfl), trivial⟩) ?_
 refine ay ?_
 refine Cx.nil ⟨by kernel_rfl, ?_⟩
 refine FinX.done al4 (Fin.go (wk2 0 2 rfl ?_))
 refine ap ?_
 refine Tr.weak [] trivial ?_
 refine ac ?_
 refine Tr.ret (Fin.drop 2 (Fin.retD rfl (RVal.tmp rfl (Lr)) ?_ (List.Perm.refl _)))
 · exact Lr
theorem w_addAnchorY {e : Ept} {c b : Chg} {wb ob : Nat} {v : Value} {p3 p5 p7 : Pr}  (hs : AscI e.anchors) (hl : e.anchors.length ≤ 1000000) (h : hasX e.anchors c.number = false) : FunD prog 173 [ptr wb 0] [resW wb ob c b, resO ob e p3 p5 (is v) p7, oweRes 3 1 (e.anchors.map fun n => [int n]) v] (int 0) [resW wb ob c ⟨b.endpoint, 8, c.number, b.at_, b.idn⟩, resO ob e p3 p5 (ints (insX e.anchors c.number)) p7] := by
 refine FunD.of func173 rfl rfl (by exact Nb rfl) fun M0 w0 S rs M1 w1 => ?_
 refine ac ?_
 refine ap ?_
 refine TO.callD _ rfl rfl (by decide) rfl (w_add6Y (e := e) (c := c) (b := b) hs hl h) ⟨ke rfl, ke rfl, ke rfl, trivial⟩ ((perm_at (j := 0) rfl).trans (List.Perm.cons _ ((perm_at (j := 0) rfl).trans (List.Perm.cons _ ((perm_at (j := 0) rfl).trans (List.Perm.cons _ (List.Perm.refl _))))))) ?_
 refine ap ?_
 refine Tr.ret (Fin.retD rfl (RVal.tmp rfl (Lr)) ?_ (List.Perm.refl _))
 · exact Lr
theorem w_drop6T {e : Ept} {c b : Chg} {wb ob : Nat} {v : Value} {p3 p5 p7 : Pr} {bk : Int}  (hs : AscI e.anchors) (hl : e.anchors.length ≤ 1000000) (h : hasX e.anchors c.number = false) : FunD prog 216 [ptr wb 0, ptr ob 6, int bk] [resW wb ob c b, resO ob e p3 p5 (is v) p7, oweRes 3 1 (e.anchors.map fun n => [int n]) v] (int 41) [] := by
 refine FunD.of func216 rfl rfl (by exact Nb rfl) fun M0 w0 S rs M1 w1 => ?_
 refine ac ?_
 refine Tr.seq (Tr.rx ?_)
 refine ay ?_
 refine Cx.ef 2 rfl rfl (by decide) (ef_callc rfl rfl (by decide) rfl (w_BSWi (l := e.anchors) hs hl) ⟨ke rfl, ke rfl, trivial⟩) ?_
 refine ay ?_
 refine Cx.nil ⟨by kernel_rfl, ?_⟩
 refine FinX.done al4 (Fin.go (wk5 0 1 2 7 8 rfl ?_))
 refine an ?_ ?_ <;> intro h1 q1
 refine ac ?_
 refine Tr.ret (Fin.then_ret (Fin.drop 0 (Fin.drop 0 (Fin.drop 0 (Fin.retD rfl (RVal.tmp rfl (Lr)) ?_ (List.Perm.refl _))))))
 · exact Lr
 rw [h] at h1; exact absurd h1 (by decide)
theorem w_dropAnchorT {e : Ept} {c b : Chg} {wb ob : Nat} {v : Value} {p3 p5 p7 : Pr}  (hs : AscI e.anchors) (hl : e.anchors.length ≤ 1000000) (h : hasX e.anchors c.number = false) : FunD prog 174 [ptr wb 0] [resW wb ob c b, resO ob e p3 p5 (is v) p7, oweRes 3 1 (e.anchors.map fun n => [int n]) v] (int 41) [] := by
 refine FunD.of func174 rfl rfl (by exact Nb rfl) fun M0 w0 S rs M1 w1 => ?_
 refine ac ?_
 refine ap ?_
 refine TO.callD _ rfl rfl (by decide) rfl (w_drop6T (e := e) (c := c) (b := b) hs hl h) ⟨ke rfl, ke rfl, ke rfl, trivial⟩ ((perm_at (j := 0) rfl).trans (List.Perm.cons _ ((perm_at (j := 0) rfl).trans (List.Perm.cons _ ((perm_at (j := 0) rfl).trans (List.Perm.cons _ (List.Perm.refl _))))))) ?_
 refine ap ?_
 refine Tr.ret (Fin.retD rfl (RVal.tmp rfl (Lr)) ?_ (List.Perm.refl _))
 · exact Lr
theorem w_drop6Y {e : Ept} {c b : Chg} {wb ob : Nat} {v : Value} {p3 p5 p7 : Pr} {bk : Int}  (hs : AscI e.anchors) (hl : e.anchors.length ≤ 1000000) (h : hasX e.anchors c.number = true) : FunD prog 216 [ptr wb 0, ptr ob 6, int bk] [resW wb ob c b, resO ob e p3 p5 (is v) p7, oweRes 3 1 (e.anchors.map fun n => [int n]) v] (int 0) [resW wb ob c ⟨b.endpoint, bk, c.number, b.at_, b.idn⟩, resO ob e p3 p5 (ints (e.anchors.eraseIdx (posI e.anchors c.number))) p7] := by
 refine FunD.of func216 rfl rfl (by exact Nb rfl) fun M0 w0 S rs M1 w1 => ?_
 have hlt_ := hasX_lt h
 refine ac ?_
 refine Tr.seq (Tr.rx ?_)
 refine ay ?_
 refine Cx.ef 2 rfl rfl (by decide) (ef_callc rfl rfl (by decide) rfl (w_BSWi (l := e.anchors) hs hl) ⟨ke rfl, ke rfl, trivial⟩) ?_
 refine ay ?_
 refine Cx.nil ⟨by kernel_rfl, ?_⟩
 refine FinX.done al4 (Fin.go (wk5 0 1 2 7 8 rfl ?_))
 refine an ?_ ?_ <;> intro h1 q1
 rw [h] at h1; exact absurd h1 (by decide)
 refine ac ?_
 refine ap ?_
 refine TO.efc 2 rfl rfl (by decide) (ef_callc rfl rfl (by decide) rfl (w_DelWi (l := e.anchors) (i := posI e.anchors c.number) (hasX_lt h) hl) ⟨ke rfl, ⟨_, rfl, int_eq (by omega)⟩, ⟨_, rfl, int_eq (by omega)⟩, trivial⟩) ?_
 refine ap ?_
 refine wk2 0 2 rfl ?_
 refine ap ?_
 refine Tr.weak [] trivial ?_
 refine ac ?_
 refine Tr.ret (Fin.drop 2 (Fin.retD rfl (RVal.tmp rfl (Lr)) ?_ (List.Perm.refl _)))
 · exact Lr
theorem w_dropAnchorY {e : Ept} {c b : Chg} {wb ob : Nat} {v : Value} {p3 p5 p7 : Pr}  (hs : AscI e.anchors) (hl : e.anchors.length ≤ 1000000) (h : hasX e.anchors c.number = true) : FunD prog 174 [ptr wb 0] [resW wb ob c b, resO ob e p3 p5 (is v) p7, oweRes 3 1 (e.anchors.map fun n => [int n]) v] (int 0) [resW wb ob c ⟨b.endpoint, 7, c.number, b.at_, b.idn⟩, resO ob e p3 p5 (ints (e.anchors.eraseIdx (posI e.anchors c.number))) p7] := by
 refine FunD.of func174 rfl rfl (by exact Nb rfl) fun M0 w0 S rs M1 w1 => ?_
 refine ac ?_
 refine ap ?_
 refine TO.callD _ rfl rfl (by decide) rfl (w_drop6Y (e := e) (c := c) (b := b) hs hl h) ⟨ke rfl, ke rfl, ke rfl, trivial⟩ ((perm_at (j := 0) rfl).trans (List.Perm.cons _ ((perm_at (j := 0) rfl).trans (List.Perm.cons _ ((perm_at (j := 0) rfl).trans (List.Perm.cons _ (List.Perm.refl _))))))) ?_
 refine ap ?_
 refine Tr.ret (Fin.retD rfl (RVal.tmp rfl (Lr)) ?_ (List.Perm.refl _))
 · exact Lr
theorem w_add7T {e : Ept} {c b : Chg} {wb ob : Nat} {v : Value} {p3 p5 p6 : Pr} {bk : Int}  (hs : AscI e.hashes) (hl : e.hashes.length ≤ 1000000) (h : hasX e.hashes c.number = true) : FunD prog 215 [ptr wb 0, ptr ob 7, int bk] [resW wb ob c b, resO ob e p3 p5 p6 (is v), oweRes 3 1 (e.hashes.map fun n => [int n]) v] (int 41) [] := by
 refine FunD.of func215 rfl rfl (by exact Nb rfl) fun M0 w0 S rs M1 w1 => ?_
 refine ac ?_
 refine Tr.seq (Tr.rx ?_)
 refine ay ?_
 refine Cx.ef 2 rfl rfl (by decide) (ef_callc rfl rfl (by decide) rfl (w_BSWi (l := e.hashes) hs hl) ⟨ke rfl, ke rfl, trivial⟩) ?_
 refine ay ?_
 refine Cx.nil ⟨by kernel_rfl, ?_⟩
 refine FinX.done al4 (Fin.go (wk5 0 1 2 7 8 rfl ?_))
 refine an ?_ ?_ <;> intro h1 q1
 refine ac ?_
 refine Tr.ret (Fin.then_ret (Fin.drop 0 (Fin.drop 0 (Fin.drop 0 (Fin.retD rfl (RVal.tmp rfl (Lr)) ?_ (List.Perm.refl _))))))
 · exact Lr
 rw [h] at h1; exact absurd h1 (by decide)
theorem w_addHashT {e : Ept} {c b : Chg} {wb ob : Nat} {v : Value} {p3 p5 p6 : Pr}  (hs : AscI e.hashes) (hl : e.hashes.length ≤ 1000000) (h : hasX e.hashes c.number = true) : FunD prog 175 [ptr wb 0] [resW wb ob c b, resO ob e p3 p5 p6 (is v), oweRes 3 1 (e.hashes.map fun n => [int n]) v] (int 41) [] := by
 refine FunD.of func175 rfl rfl (by exact Nb rfl) fun M0 w0 S rs M1 w1 => ?_
 refine ac ?_
 refine ap ?_
 refine TO.callD _ rfl rfl (by decide) rfl (w_add7T (e := e) (c := c) (b := b) hs hl h) ⟨ke rfl, ke rfl, ke rfl, trivial⟩ ((perm_at (j := 0) rfl).trans (List.Perm.cons _ ((perm_at (j := 0) rfl).trans (List.Perm.cons _ ((perm_at (j := 0) rfl).trans (List.Perm.cons _ (List.Perm.refl _))))))) ?_
 refine ap ?_
 refine Tr.ret (Fin.retD rfl (RVal.tmp rfl (Lr)) ?_ (List.Perm.refl _))
 · exact Lr
theorem w_add7Y {e : Ept} {c b : Chg} {wb ob : Nat} {v : Value} {p3 p5 p6 : Pr} {bk : Int}  (hs : AscI e.hashes) (hl : e.hashes.length ≤ 1000000) (h : hasX e.hashes c.number = false) : FunD prog 215 [ptr wb 0, ptr ob 7, int bk] [resW wb ob c b, resO ob e p3 p5 p6 (is v), oweRes 3 1 (e.hashes.map fun n => [int n]) v] (int 0) [resW wb ob c ⟨b.endpoint, bk, c.number, b.at_, b.idn⟩, resO ob e p3 p5 p6 (ints (insX e.hashes c.number))] := by
 refine FunD.of func215 rfl rfl (by exact Nb rfl) fun M0 w0 S rs M1 w1 => ?_
 refine ac ?_
 refine Tr.seq (Tr.rx ?_)
 refine ay ?_
 refine Cx.ef 2 rfl rfl (by decide) (ef_callc rfl rfl (by decide) rfl (w_BSWi (l := e.hashes) hs hl) ⟨ke rfl, ke rfl, trivial⟩) ?_
 refine ay ?_
 refine Cx.nil ⟨by kernel_rfl, ?_⟩
 refine FinX.done al4 (Fin.go (wk5 0 1 2 7 8 rfl ?_))
 refine an ?_ ?_ <;> intro h1 q1
 rw [h] at h1; exact absurd h1 (by decide)
 refine ac ?_
 refine Tr.seq (Tr.rx ?_)
 refine ay ?_
 refine xo rfl (fun _ => ok_buildSlice (xs := [.tmp 31]) (rows := [[_]]) rfl rfl underlying22 sz3 z3 rfl (by decide) ⟨⟨(by exact rfl), (Vo rfl)⟩, trivial⟩ (by decide)) ?_
 refine Cx.ef 2 rfl rfl (by decide) (ef_callc rfl rfl (by decide) rfl (w_InsWi (l := e.hashes) (x := c.number) (i := posI e.hashes c.number) (posI_le _ _) hl) ⟨ke rfl, ke rfl, (Kf rfl), trivial⟩) ?_
 refine ay ?_
 refine Cx.nil ⟨by kernel_rfl, ?_⟩
 refine FinX.done al4 (Fin.go (wk2 0 2 rfl ?_))
 refine ap ?_
 refine Tr.weak [] trivial ?_
 refine ac ?_
 refine Tr.ret (Fin.drop 2 (Fin.retD rfl (RVal.tmp rfl (Lr)) ?_ (List.Perm.refl _)))
 · exact Lr
theorem w_addHashY {e : Ept} {c b : Chg} {wb ob : Nat} {v : Value} {p3 p5 p6 : Pr}  (hs : AscI e.hashes) (hl : e.hashes.length ≤ 1000000) (h : hasX e.hashes c.number = false) : FunD prog 175 [ptr wb 0] [resW wb ob c b, resO ob e p3 p5 p6 (is v), oweRes 3 1 (e.hashes.map fun n => [int n]) v] (int 0) [resW wb ob c ⟨b.endpoint, 10, c.number, b.at_, b.idn⟩, resO ob e p3 p5 p6 (ints (insX e.hashes c.number))] := by
 refine FunD.of func175 rfl rfl (by exact Nb rfl) fun M0 w0 S rs M1 w1 => ?_
 refine ac ?_
 refine ap ?_
 refine TO.callD _ rfl rfl (by decide) rfl (w_add7Y (e := e) (c := c) (b := b) hs hl h) ⟨ke rfl, ke rfl, ke rfl, trivial⟩ ((perm_at (j := 0) rfl).trans (List.Perm.cons _ ((perm_at (j := 0) rfl).trans (List.Perm.cons _ ((perm_at (j := 0) rfl).trans (List.Perm.cons _ (List.Perm.refl _))))))) ?_
 refine ap ?_
 refine Tr.ret (Fin.retD rfl (RVal.tmp rfl (Lr)) ?_ (List.Perm.refl _))
 · exact Lr
theorem w_drop7T {e : Ept} {c b : Chg} {wb ob : Nat} {v : Value} {p3 p5 p6 : Pr} {bk : Int}  (hs : AscI e.hashes) (hl : e.hashes.length ≤ 1000000) (h : hasX e.hashes c.number = false) : FunD prog 216 [ptr wb 0, ptr ob 7, int bk] [resW wb ob c b, resO ob e p3 p5 p6 (is v), oweRes 3 1 (e.hashes.map fun n => [int n]) v] (int 41) [] := by
 refine FunD.of func216 rfl rfl (by exact Nb rfl) fun M0 w0 S rs M1 w1 => ?_
 refine ac ?_
 refine Tr.seq (Tr.rx ?_)
 refine ay ?_
 refine Cx.ef 2 rfl rfl (by decide) (ef_callc rfl rfl (by decide) rfl (w_BSWi (l := e.hashes) hs hl) ⟨ke rfl, ke rfl, trivial⟩) ?_
 refine ay ?_
 refine Cx.nil ⟨by kernel_rfl, ?_⟩
 refine FinX.done al4 (Fin.go (wk5 0 1 2 7 8 rfl ?_))
 refine an ?_ ?_ <;> intro h1 q1
 refine ac ?_
 refine Tr.ret (Fin.then_ret (Fin.drop 0 (Fin.drop 0 (Fin.drop 0 (Fin.retD rfl (RVal.tmp rfl (Lr)) ?_ (List.Perm.refl _))))))
 · exact Lr
 rw [h] at h1; exact absurd h1 (by decide)
theorem w_dropHashT {e : Ept} {c b : Chg} {wb ob : Nat} {v : Value} {p3 p5 p6 : Pr}  (hs : AscI e.hashes) (hl : e.hashes.length ≤ 1000000) (h : hasX e.hashes c.number = false) : FunD prog 176 [ptr wb 0] [resW wb ob c b, resO ob e p3 p5 p6 (is v), oweRes 3 1 (e.hashes.map fun n => [int n]) v] (int 41) [] := by
 refine FunD.of func176 rfl rfl (by exact Nb rfl) fun M0 w0 S rs M1 w1 => ?_
 refine ac ?_
 refine ap ?_
 refine TO.callD _ rfl rfl (by decide) rfl (w_drop7T (e := e) (c := c) (b := b) hs hl h) ⟨ke rfl, ke rfl, ke rfl, trivial⟩ ((perm_at (j := 0) rfl).trans (List.Perm.cons _ ((perm_at (j := 0) rfl).trans (List.Perm.cons _ ((perm_at (j := 0) rfl).trans (List.Perm.cons _ (List.Perm.refl _))))))) ?_
 refine ap ?_
 refine Tr.ret (Fin.retD rfl (RVal.tmp rfl (Lr)) ?_ (List.Perm.refl _))
 · exact Lr
theorem w_drop7Y {e : Ept} {c b : Chg} {wb ob : Nat} {v : Value} {p3 p5 p6 : Pr} {bk : Int}  (hs : AscI e.hashes) (hl : e.hashes.length ≤ 1000000) (h : hasX e.hashes c.number = true) : FunD prog 216 [ptr wb 0, ptr ob 7, int bk] [resW wb ob c b, resO ob e p3 p5 p6 (is v), oweRes 3 1 (e.hashes.map fun n => [int n]) v] (int 0) [resW wb ob c ⟨b.endpoint, bk, c.number, b.at_, b.idn⟩, resO ob e p3 p5 p6 (ints (e.hashes.eraseIdx (posI e.hashes c.number)))] := by
 refine FunD.of func216 rfl rfl (by exact Nb rfl) fun M0 w0 S rs M1 w1 => ?_
 have hlt_ := hasX_lt h
 refine ac ?_
 refine Tr.seq (Tr.rx ?_)
 refine ay ?_
 refine Cx.ef 2 rfl rfl (by decide) (ef_callc rfl rfl (by decide) rfl (w_BSWi (l := e.hashes) hs hl) ⟨ke rfl, ke rfl, trivial⟩) ?_
 refine ay ?_
 refine Cx.nil ⟨by kernel_rfl, ?_⟩
 refine FinX.done al4 (Fin.go (wk5 0 1 2 7 8 rfl ?_))
 refine an ?_ ?_ <;> intro h1 q1
 rw [h] at h1; exact absurd h1 (by decide)
 refine ac ?_
 refine ap ?_
 refine TO.efc 2 rfl rfl (by decide) (ef_callc rfl rfl (by decide) rfl (w_DelWi (l := e.hashes) (i := posI e.hashes c.number) (hasX_lt h) hl) ⟨ke rfl, ⟨_, rfl, int_eq (by omega)⟩, ⟨_, rfl, int_eq (by omega)⟩, trivial⟩) ?_
 refine ap ?_
 refine wk2 0 2 rfl ?_
 refine ap ?_
 refine Tr.weak [] trivial ?_
 refine ac ?_
 refine Tr.ret (Fin.drop 2 (Fin.retD rfl (RVal.tmp rfl (Lr)) ?_ (List.Perm.refl _)))
 · exact Lr
theorem w_dropHashY {e : Ept} {c b : Chg} {wb ob : Nat} {v : Value} {p3 p5 p6 : Pr}  (hs : AscI e.hashes) (hl : e.hashes.length ≤ 1000000) (h : hasX e.hashes c.number = true) : FunD prog 176 [ptr wb 0] [resW wb ob c b, resO ob e p3 p5 p6 (is v), oweRes 3 1 (e.hashes.map fun n => [int n]) v] (int 0) [resW wb ob c ⟨b.endpoint, 9, c.number, b.at_, b.idn⟩, resO ob e p3 p5 p6 (ints (e.hashes.eraseIdx (posI e.hashes c.number)))] := by
 refine FunD.of func176 rfl rfl (by exact Nb rfl) fun M0 w0 S rs M1 w1 => ?_
 refine ac ?_
 refine ap ?_
 refine TO.callD _ rfl rfl (by decide) rfl (w_drop7Y (e := e) (c := c) (b := b) hs hl h) ⟨ke rfl, ke rfl, ke rfl, trivial⟩ ((perm_at (j := 0) rfl).trans (List.Perm.cons _ ((perm_at (j := 0) rfl).trans (List.Perm.cons _ ((perm_at (j := 0) rfl).trans (List.Perm.cons _ (List.Perm.refl _))))))) ?_
 refine ap ?_
 refine Tr.ret (Fin.retD rfl (RVal.tmp rfl (Lr)) ?_ (List.Perm.refl _))
 · exact Lr
theorem w_setNT {c b : Chg} {wb ob cb : Nat} {n : Int}  (h : n = c.number) : FunD prog 209 [ptr wb 0, ptr cb 0] [resW wb ob c b, cellsRes true cb 3 [int n]] (int 41) [resW wb ob c b, cellsRes true cb 3 [int n]] := by
 refine FunD.of func209 rfl rfl (by exact Nb rfl) fun M0 w0 S rs M1 w1 => ?_
 refine ac ?_
 refine an ?_ ?_ <;> intro h1 q1
 refine ac ?_
 refine Tr.ret (Fin.then_ret (Fin.retD rfl (RVal.tmp rfl (Lr)) ?_ (List.Perm.refl _)))
 · exact Lr
 exfalso; have := q1; omega
theorem w_setNY {c b : Chg} {wb ob cb : Nat} {n : Int}  (h : n ≠ c.number) : FunD prog 209 [ptr wb 0, ptr cb 0] [resW wb ob c b, cellsRes true cb 3 [int n]] (int 0) [resW wb ob c ⟨b.endpoint, c.kind, n, b.at_, b.idn⟩, cellsRes true cb 3 [int c.number]] := by
 refine FunD.of func209 rfl rfl (by exact Nb rfl) fun M0 w0 S rs M1 w1 => ?_
 refine ac ?_
 refine an ?_ ?_ <;> intro h1 q1
 exfalso; have := q1; omega
 refine ac ?_
 refine Tr.seq (Tr.rx ?_)
 refine ay ?_
 refine Cx.nil ⟨by kernel_rfl, ?_⟩
 refine FinX.done al3 (Fin.go (wk2 0 1 rfl ?_))
 refine ap ?_
 refine ac ?_
 refine Tr.ret (Fin.retD rfl (RVal.tmp rfl (Lr)) ?_ (List.Perm.refl _))
 · exact Lr
theorem w_setMostT {e : Ept} {c b : Chg} {wb ob : Nat} {p3 p5 p6 p7 : Pr}  (h : e.most = c.number) : FunD prog 209 [ptr wb 0, ptr ob 2] [resW wb ob c b, resO ob e p3 p5 p6 p7] (int 41) [resW wb ob c b, resO ob e p3 p5 p6 p7] := by
 refine FunD.of func209 rfl rfl (by exact Nb rfl) fun M0 w0 S rs M1 w1 => ?_
 refine ac ?_
 refine an ?_ ?_ <;> intro h1 q1
 refine ac ?_
 refine Tr.ret (Fin.then_ret (Fin.retD rfl (RVal.tmp rfl (Lr)) ?_ (List.Perm.refl _)))
 · exact Lr
 exfalso; have := q1; omega
theorem w_setMostY {e : Ept} {c b : Chg} {wb ob : Nat} {p3 p5 p6 p7 : Pr}  (h : e.most ≠ c.number) : FunD prog 209 [ptr wb 0, ptr ob 2] [resW wb ob c b, resO ob e p3 p5 p6 p7] (int 0) [resW wb ob c ⟨b.endpoint, c.kind, e.most, b.at_, b.idn⟩, resO ob { e with most := c.number } p3 p5 p6 p7] := by
 refine FunD.of func209 rfl rfl (by exact Nb rfl) fun M0 w0 S rs M1 w1 => ?_
 refine ac ?_
 refine an ?_ ?_ <;> intro h1 q1
 exfalso; have := q1; omega
 refine ac ?_
 refine Tr.seq (Tr.rx ?_)
 refine ay ?_
 refine Cx.nil ⟨by kernel_rfl, ?_⟩
 refine FinX.done al3 (Fin.go (wk2 0 1 rfl ?_))
 refine ap ?_
 refine ac ?_
 refine Tr.ret (Fin.retD rfl (RVal.tmp rfl (Lr)) ?_ (List.Perm.refl _))
 · exact Lr
theorem w_fsetMostT {e : Ept} {c b : Chg} {wb ob : Nat} {p3 p5 p6 p7 : Pr}  (h : e.most = c.number) : FunD prog 169 [ptr wb 0] [resW wb ob c b, resO ob e p3 p5 p6 p7] (int 41) [] := by
 refine FunD.of func169 rfl rfl (by exact Nb rfl) fun M0 w0 S rs M1 w1 => ?_
 refine ac ?_
 refine ap ?_
 refine TO.callD _ rfl rfl (by decide) rfl (w_setMostT (e := e) (c := c) (b := b) h) ⟨ke rfl, ke rfl, trivial⟩ ((perm_at (j := 0) rfl).trans (List.Perm.cons _ ((perm_at (j := 0) rfl).trans (List.Perm.cons _ (List.Perm.refl _))))) ?_
 refine ap ?_
 refine Tr.ret (Fin.drop 0 (Fin.drop 0 (Fin.retD rfl (RVal.tmp rfl (Lr)) ?_ (List.Perm.refl _))))
 · exact Lr
theorem w_fsetMostY {e : Ept} {c b : Chg} {wb ob : Nat} {p3 p5 p6 p7 : Pr}  (h : e.most ≠ c.number) : FunD prog 169 [ptr wb 0] [resW wb ob c b, resO ob e p3 p5 p6 p7] (int 0) [resW wb ob c ⟨b.endpoint, c.kind, e.most, b.at_, b.idn⟩, resO ob { e with most := c.number } p3 p5 p6 p7] := by
 refine FunD.of func169 rfl rfl (by exact Nb rfl) fun M0 w0 S rs M1 w1 => ?_
 refine ac ?_
 refine ap ?_
 refine TO.callD _ rfl rfl (by decide) rfl (w_setMostY (e := e) (c := c) (b := b) h) ⟨ke rfl, ke rfl, trivial⟩ ((perm_at (j := 0) rfl).trans (List.Perm.cons _ ((perm_at (j := 0) rfl).trans (List.Perm.cons _ (List.Perm.refl _))))) ?_
 refine ap ?_
 refine Tr.ret (Fin.retD rfl (RVal.tmp rfl (Lr)) ?_ (List.Perm.refl _))
 · exact Lr
theorem w_setLeastT {e : Ept} {c b : Chg} {wb ob : Nat} {p3 p5 p6 p7 : Pr}  (h : e.least = c.number) : FunD prog 209 [ptr wb 0, ptr ob 1] [resW wb ob c b, resO ob e p3 p5 p6 p7] (int 41) [resW wb ob c b, resO ob e p3 p5 p6 p7] := by
 refine FunD.of func209 rfl rfl (by exact Nb rfl) fun M0 w0 S rs M1 w1 => ?_
 refine ac ?_
 refine an ?_ ?_ <;> intro h1 q1
 refine ac ?_
 refine Tr.ret (Fin.then_ret (Fin.retD rfl (RVal.tmp rfl (Lr)) ?_ (List.Perm.refl _)))
 · exact Lr
 exfalso; have := q1; omega
theorem w_setLeastY {e : Ept} {c b : Chg} {wb ob : Nat} {p3 p5 p6 p7 : Pr}  (h : e.least ≠ c.number) : FunD prog 209 [ptr wb 0, ptr ob 1] [resW wb ob c b, resO ob e p3 p5 p6 p7] (int 0) [resW wb ob c ⟨b.endpoint, c.kind, e.least, b.at_, b.idn⟩, resO ob { e with least := c.number } p3 p5 p6 p7] := by
 refine FunD.of func209 rfl rfl (by exact Nb rfl) fun M0 w0 S rs M1 w1 => ?_
 refine ac ?_
 refine an ?_ ?_ <;> intro h1 q1
 exfalso; have := q1; omega
 refine ac ?_
 refine Tr.seq (Tr.rx ?_)
 refine ay ?_
 refine Cx.nil ⟨by kernel_rfl, ?_⟩
 refine FinX.done al3 (Fin.go (wk2 0 1 rfl ?_))
 refine ap ?_
 refine ac ?_
 refine Tr.ret (Fin.retD rfl (RVal.tmp rfl (Lr)) ?_ (List.Perm.refl _))
 · exact Lr
theorem w_fsetLeastT {e : Ept} {c b : Chg} {wb ob : Nat} {p3 p5 p6 p7 : Pr}  (h : e.least = c.number) : FunD prog 170 [ptr wb 0] [resW wb ob c b, resO ob e p3 p5 p6 p7] (int 41) [] := by
 refine FunD.of func170 rfl rfl (by exact Nb rfl) fun M0 w0 S rs M1 w1 => ?_
 refine ac ?_
 refine ap ?_
 refine TO.callD _ rfl rfl (by decide) rfl (w_setLeastT (e := e) (c := c) (b := b) h) ⟨ke rfl, ke rfl, trivial⟩ ((perm_at (j := 0) rfl).trans (List.Perm.cons _ ((perm_at (j := 0) rfl).trans (List.Perm.cons _ (List.Perm.refl _))))) ?_
 refine ap ?_
 refine Tr.ret (Fin.drop 0 (Fin.drop 0 (Fin.retD rfl (RVal.tmp rfl (Lr)) ?_ (List.Perm.refl _))))
 · exact Lr
theorem w_fsetLeastY {e : Ept} {c b : Chg} {wb ob : Nat} {p3 p5 p6 p7 : Pr}  (h : e.least ≠ c.number) : FunD prog 170 [ptr wb 0] [resW wb ob c b, resO ob e p3 p5 p6 p7] (int 0) [resW wb ob c ⟨b.endpoint, c.kind, e.least, b.at_, b.idn⟩, resO ob { e with least := c.number } p3 p5 p6 p7] := by
 refine FunD.of func170 rfl rfl (by exact Nb rfl) fun M0 w0 S rs M1 w1 => ?_
 refine ac ?_
 refine ap ?_
 refine TO.callD _ rfl rfl (by decide) rfl (w_setLeastY (e := e) (c := c) (b := b) h) ⟨ke rfl, ke rfl, trivial⟩ ((perm_at (j := 0) rfl).trans (List.Perm.cons _ ((perm_at (j := 0) rfl).trans (List.Perm.cons _ (List.Perm.refl _))))) ?_
 refine ap ?_
 refine Tr.ret (Fin.retD rfl (RVal.tmp rfl (Lr)) ?_ (List.Perm.refl _))
 · exact Lr
abbrev bitI (b : Bool) : Int := if b then 1 else 0
theorem w_flagFallbackR {e : Ept} {c b : Chg} {wb ob : Nat} {p3 p5 p6 p7 : Pr}  (hr : ¬ (0 ≤ c.number ∧ c.number ≤ 1)) : FunD prog 217 [ptr wb 0, ptr ob 8] [resW wb ob c b, resO ob e p3 p5 p6 p7] (int 2) [] := by
 refine FunD.of func217 rfl rfl (by exact Nb rfl) fun M0 w0 S rs M1 w1 => ?_
 refine ac ?_
 refine ag ?_ ?_ <;> intro h1 q1
 have hq13 := q1
 refine ac ?_
 refine wk3 0 1 20 rfl ?_
 refine ac ?_
 refine Tr.ret (Fin.then_ret (Fin.drop 0 (Fin.drop 0 (Fin.retD rfl (RVal.tmp rfl (Lr)) ?_ (List.Perm.refl _)))))
 · exact Lr
 refine ac ?_
 refine wk3 0 1 20 rfl ?_
 refine Tr.cn rfl ?_ ?_ <;> intro h2 q2
 refine ac ?_
 refine Tr.ret (Fin.then_ret (Fin.drop 0 (Fin.drop 0 (Fin.retD rfl (RVal.tmp rfl (Lr)) ?_ (List.Perm.refl _)))))
 · exact Lr
 exfalso; simp_all
theorem w_fsetFallbackR {e : Ept} {c b : Chg} {wb ob : Nat} {p3 p5 p6 p7 : Pr}  (hr : ¬ (0 ≤ c.number ∧ c.number ≤ 1)) : FunD prog 177 [ptr wb 0] [resW wb ob c b, resO ob e p3 p5 p6 p7] (int 2) [] := by
 refine FunD.of func177 rfl rfl (by exact Nb rfl) fun M0 w0 S rs M1 w1 => ?_
 refine ac ?_
 refine ap ?_
 refine TO.callD _ rfl rfl (by decide) rfl (w_flagFallbackR (e := e) (c := c) (b := b) hr) ⟨ke rfl, ke rfl, trivial⟩ ((perm_at (j := 0) rfl).trans (List.Perm.cons _ ((perm_at (j := 0) rfl).trans (List.Perm.cons _ (List.Perm.refl _))))) ?_
 refine ap ?_
 refine Tr.ret (Fin.retD rfl (RVal.tmp rfl (Lr)) ?_ (List.Perm.refl _))
 · exact Lr
theorem w_flagFallbackT {e : Ept} {c b : Chg} {wb ob : Nat} {p3 p5 p6 p7 : Pr} {k : Int}  (hr : 0 ≤ c.number ∧ c.number ≤ 1) (hk : bitI e.fall = k) (h : k = c.number) : FunD prog 217 [ptr wb 0, ptr ob 8] [resW wb ob c b, resO ob e p3 p5 p6 p7] (int 41) [] := by
 refine FunD.of func217 rfl rfl (by exact Nb rfl) fun M0 w0 S rs M1 w1 => ?_
 refine ac ?_
 refine ag ?_ ?_ <;> intro h1 q1
 exfalso; have := q1; omega
 refine ac ?_
 refine wk3 0 1 20 rfl ?_
 refine Tr.cn rfl ?_ ?_ <;> intro h2 q2
 exfalso; simp_all; omega
 refine ac ?_
 refine Tr.seq (Tr.regT ?_)
 refine Tl rfl rfl rfl rfl z3 zo3 (fun b1 => ?_)
 refine ap ?_
 refine an ?_ ?_ <;> intro h3 q3
 obtain rfl : k = 1 := by rw [← hk]; unfold bitI; simp_all
 refine ap ?_
 refine ap ?_
 refine TO.callD _ rfl rfl (by decide) rfl (w_setNT (c := c) (b := b) h) ⟨ke rfl, ke rfl, trivial⟩ ((perm_at (j := 1) rfl).trans (List.Perm.cons _ ((perm_at (j := 0) rfl).trans (List.Perm.cons _ (List.Perm.refl _))))) ?_
 refine ap ?_
 refine ap ?_
 refine Tr.drop 1 (wk1 6 rfl ?_)
 refine ac ?_
 refine Tr.ret (Fin.drop 0 (Fin.drop 0 (Fin.retD rfl (RVal.tmp rfl (Lr)) ?_ (List.Perm.refl _))))
 · exact Lr
 obtain rfl : k = 0 := by rw [← hk]; unfold bitI; simp_all
 refine ac ?_
 refine ap ?_
 refine TO.callD _ rfl rfl (by decide) rfl (w_setNT (c := c) (b := b) h) ⟨ke rfl, ke rfl, trivial⟩ ((perm_at (j := 1) rfl).trans (List.Perm.cons _ ((perm_at (j := 0) rfl).trans (List.Perm.cons _ (List.Perm.refl _))))) ?_
 refine ap ?_
 refine ap ?_
 refine Tr.drop 1 (wk1 6 rfl ?_)
 refine ac ?_
 refine Tr.ret (Fin.drop 0 (Fin.drop 0 (Fin.retD rfl (RVal.tmp rfl (Lr)) ?_ (List.Perm.refl _))))
 · exact Lr
theorem w_fsetFallbackT {e : Ept} {c b : Chg} {wb ob : Nat} {p3 p5 p6 p7 : Pr} {k : Int}  (hr : 0 ≤ c.number ∧ c.number ≤ 1) (hk : bitI e.fall = k) (h : k = c.number) : FunD prog 177 [ptr wb 0] [resW wb ob c b, resO ob e p3 p5 p6 p7] (int 41) [] := by
 refine FunD.of func177 rfl rfl (by exact Nb rfl) fun M0 w0 S rs M1 w1 => ?_
 refine ac ?_
 refine ap ?_
 refine TO.callD _ rfl rfl (by decide) rfl (w_flagFallbackT (e := e) (c := c) (b := b) hr hk h) ⟨ke rfl, ke rfl, trivial⟩ ((perm_at (j := 0) rfl).trans (List.Perm.cons _ ((perm_at (j := 0) rfl).trans (List.Perm.cons _ (List.Perm.refl _))))) ?_
 refine ap ?_
 refine Tr.ret (Fin.retD rfl (RVal.tmp rfl (Lr)) ?_ (List.Perm.refl _))
 · exact Lr
theorem w_flagFallbackY {e : Ept} {c b : Chg} {wb ob : Nat} {p3 p5 p6 p7 : Pr} {k : Int}  (hr : 0 ≤ c.number ∧ c.number ≤ 1) (hk : bitI e.fall = k) (h : k ≠ c.number) : FunD prog 217 [ptr wb 0, ptr ob 8] [resW wb ob c b, resO ob e p3 p5 p6 p7] (int 0) [resW wb ob c ⟨b.endpoint, c.kind, k, b.at_, b.idn⟩, resO ob { e with fall := (c.number == 1) } p3 p5 p6 p7] := by
 refine FunD.of func217 rfl rfl (by exact Nb rfl) fun M0 w0 S rs M1 w1 => ?_
 refine ac ?_
 refine ag ?_ ?_ <;> intro h1 q1
 exfalso; have := q1; omega
 refine ac ?_
 refine wk3 0 1 20 rfl ?_
 refine Tr.cn rfl ?_ ?_ <;> intro h2 q2
 exfalso; simp_all; omega
 refine ac ?_
 refine Tr.seq (Tr.regT ?_)
 refine Tl rfl rfl rfl rfl z3 zo3 (fun b1 => ?_)
 refine ap ?_
 refine an ?_ ?_ <;> intro h3 q3
 obtain rfl : k = 1 := by rw [← hk]; unfold bitI; simp_all
 refine ap ?_
 refine ap ?_
 refine TO.callD _ rfl rfl (by decide) rfl (w_setNY (c := c) (b := b) h) ⟨ke rfl, ke rfl, trivial⟩ ((perm_at (j := 1) rfl).trans (List.Perm.cons _ ((perm_at (j := 0) rfl).trans (List.Perm.cons _ (List.Perm.refl _))))) ?_
 refine ap ?_
 refine ap ?_
 refine Tr.drop 1 (wk1 6 rfl ?_)
 refine ac ?_
 refine Tr.ret (Fin.retD rfl (RVal.tmp rfl (Lr)) ?_ (List.Perm.refl _))
 · exact Lr
 obtain rfl : k = 0 := by rw [← hk]; unfold bitI; simp_all
 refine ac ?_
 refine ap ?_
 refine TO.callD _ rfl rfl (by decide) rfl (w_setNY (c := c) (b := b) h) ⟨ke rfl, ke rfl, trivial⟩ ((perm_at (j := 1) rfl).trans (List.Perm.cons _ ((perm_at (j := 0) rfl).trans (List.Perm.cons _ (List.Perm.refl _))))) ?_
 refine ap ?_
 refine ap ?_
 refine Tr.drop 1 (wk1 6 rfl ?_)
 refine ac ?_
 refine Tr.ret (Fin.retD rfl (RVal.tmp rfl (Lr)) ?_ (List.Perm.refl _))
 · exact Lr
theorem w_fsetFallbackY {e : Ept} {c b : Chg} {wb ob : Nat} {p3 p5 p6 p7 : Pr} {k : Int}  (hr : 0 ≤ c.number ∧ c.number ≤ 1) (hk : bitI e.fall = k) (h : k ≠ c.number) : FunD prog 177 [ptr wb 0] [resW wb ob c b, resO ob e p3 p5 p6 p7] (int 0) [resW wb ob c ⟨b.endpoint, c.kind, k, b.at_, b.idn⟩, resO ob { e with fall := (c.number == 1) } p3 p5 p6 p7] := by
 refine FunD.of func177 rfl rfl (by exact Nb rfl) fun M0 w0 S rs M1 w1 => ?_
 refine ac ?_
 refine ap ?_
 refine TO.callD _ rfl rfl (by decide) rfl (w_flagFallbackY (e := e) (c := c) (b := b) hr hk h) ⟨ke rfl, ke rfl, trivial⟩ ((perm_at (j := 0) rfl).trans (List.Perm.cons _ ((perm_at (j := 0) rfl).trans (List.Perm.cons _ (List.Perm.refl _))))) ?_
 refine ap ?_
 refine Tr.ret (Fin.retD rfl (RVal.tmp rfl (Lr)) ?_ (List.Perm.refl _))
 · exact Lr
theorem w_flagOrderR {e : Ept} {c b : Chg} {wb ob : Nat} {p3 p5 p6 p7 : Pr}  (hr : ¬ (0 ≤ c.number ∧ c.number ≤ 1)) : FunD prog 217 [ptr wb 0, ptr ob 4] [resW wb ob c b, resO ob e p3 p5 p6 p7] (int 2) [] := by
 refine FunD.of func217 rfl rfl (by exact Nb rfl) fun M0 w0 S rs M1 w1 => ?_
 refine ac ?_
 refine ag ?_ ?_ <;> intro h1 q1
 have hq13 := q1
 refine ac ?_
 refine wk3 0 1 20 rfl ?_
 refine ac ?_
 refine Tr.ret (Fin.then_ret (Fin.drop 0 (Fin.drop 0 (Fin.retD rfl (RVal.tmp rfl (Lr)) ?_ (List.Perm.refl _)))))
 · exact Lr
 refine ac ?_
 refine wk3 0 1 20 rfl ?_
 refine Tr.cn rfl ?_ ?_ <;> intro h2 q2
 refine ac ?_
 refine Tr.ret (Fin.then_ret (Fin.drop 0 (Fin.drop 0 (Fin.retD rfl (RVal.tmp rfl (Lr)) ?_ (List.Perm.refl _)))))
 · exact Lr
 exfalso; simp_all
theorem w_fsetOrderR {e : Ept} {c b : Chg} {wb ob : Nat} {p3 p5 p6 p7 : Pr}  (hr : ¬ (0 ≤ c.number ∧ c.number ≤ 1)) : FunD prog 178 [ptr wb 0] [resW wb ob c b, resO ob e p3 p5 p6 p7] (int 2) [] := by
 refine FunD.of func178 rfl rfl (by exact Nb rfl) fun M0 w0 S rs M1 w1 => ?_
 refine ac ?_
 refine ap ?_
 refine TO.callD _ rfl rfl (by decide) rfl (w_flagOrderR (e := e) (c := c) (b := b) hr) ⟨ke rfl, ke rfl, trivial⟩ ((perm_at (j := 0) rfl).trans (List.Perm.cons _ ((perm_at (j := 0) rfl).trans (List.Perm.cons _ (List.Perm.refl _))))) ?_
 refine ap ?_
 refine Tr.ret (Fin.retD rfl (RVal.tmp rfl (Lr)) ?_ (List.Perm.refl _))
 · exact Lr
theorem w_flagOrderT {e : Ept} {c b : Chg} {wb ob : Nat} {p3 p5 p6 p7 : Pr} {k : Int}  (hr : 0 ≤ c.number ∧ c.number ≤ 1) (hk : bitI e.own = k) (h : k = c.number) : FunD prog 217 [ptr wb 0, ptr ob 4] [resW wb ob c b, resO ob e p3 p5 p6 p7] (int 41) [] := by
 refine FunD.of func217 rfl rfl (by exact Nb rfl) fun M0 w0 S rs M1 w1 => ?_
 refine ac ?_
 refine ag ?_ ?_ <;> intro h1 q1
 exfalso; have := q1; omega
 refine ac ?_
 refine wk3 0 1 20 rfl ?_
 refine Tr.cn rfl ?_ ?_ <;> intro h2 q2
 exfalso; simp_all; omega
 refine ac ?_
 refine Tr.seq (Tr.regT ?_)
 refine Tl rfl rfl rfl rfl z3 zo3 (fun b1 => ?_)
 refine ap ?_
 refine an ?_ ?_ <;> intro h3 q3
 obtain rfl : k = 1 := by rw [← hk]; unfold bitI; simp_all
 refine ap ?_
 refine ap ?_
 refine TO.callD _ rfl rfl (by decide) rfl (w_setNT (c := c) (b := b) h) ⟨ke rfl, ke rfl, trivial⟩ ((perm_at (j := 1) rfl).trans (List.Perm.cons _ ((perm_at (j := 0) rfl).trans (List.Perm.cons _ (List.Perm.refl _))))) ?_
 refine ap ?_
 refine ap ?_
 refine Tr.drop 1 (wk1 6 rfl ?_)
 refine ac ?_
 refine Tr.ret (Fin.drop 0 (Fin.drop 0 (Fin.retD rfl (RVal.tmp rfl (Lr)) ?_ (List.Perm.refl _))))
 · exact Lr
 obtain rfl : k = 0 := by rw [← hk]; unfold bitI; simp_all
 refine ac ?_
 refine ap ?_
 refine TO.callD _ rfl rfl (by decide) rfl (w_setNT (c := c) (b := b) h) ⟨ke rfl, ke rfl, trivial⟩ ((perm_at (j := 1) rfl).trans (List.Perm.cons _ ((perm_at (j := 0) rfl).trans (List.Perm.cons _ (List.Perm.refl _))))) ?_
 refine ap ?_
 refine ap ?_
 refine Tr.drop 1 (wk1 6 rfl ?_)
 refine ac ?_
 refine Tr.ret (Fin.drop 0 (Fin.drop 0 (Fin.retD rfl (RVal.tmp rfl (Lr)) ?_ (List.Perm.refl _))))
 · exact Lr
theorem w_fsetOrderT {e : Ept} {c b : Chg} {wb ob : Nat} {p3 p5 p6 p7 : Pr} {k : Int}  (hr : 0 ≤ c.number ∧ c.number ≤ 1) (hk : bitI e.own = k) (h : k = c.number) : FunD prog 178 [ptr wb 0] [resW wb ob c b, resO ob e p3 p5 p6 p7] (int 41) [] := by
 refine FunD.of func178 rfl rfl (by exact Nb rfl) fun M0 w0 S rs M1 w1 => ?_
 refine ac ?_
 refine ap ?_
 refine TO.callD _ rfl rfl (by decide) rfl (w_flagOrderT (e := e) (c := c) (b := b) hr hk h) ⟨ke rfl, ke rfl, trivial⟩ ((perm_at (j := 0) rfl).trans (List.Perm.cons _ ((perm_at (j := 0) rfl).trans (List.Perm.cons _ (List.Perm.refl _))))) ?_
 refine ap ?_
 refine Tr.ret (Fin.retD rfl (RVal.tmp rfl (Lr)) ?_ (List.Perm.refl _))
 · exact Lr
theorem w_flagOrderY {e : Ept} {c b : Chg} {wb ob : Nat} {p3 p5 p6 p7 : Pr} {k : Int}  (hr : 0 ≤ c.number ∧ c.number ≤ 1) (hk : bitI e.own = k) (h : k ≠ c.number) : FunD prog 217 [ptr wb 0, ptr ob 4] [resW wb ob c b, resO ob e p3 p5 p6 p7] (int 0) [resW wb ob c ⟨b.endpoint, c.kind, k, b.at_, b.idn⟩, resO ob { e with own := (c.number == 1) } p3 p5 p6 p7] := by
 refine FunD.of func217 rfl rfl (by exact Nb rfl) fun M0 w0 S rs M1 w1 => ?_
 refine ac ?_
 refine ag ?_ ?_ <;> intro h1 q1
 exfalso; have := q1; omega
 refine ac ?_
 refine wk3 0 1 20 rfl ?_
 refine Tr.cn rfl ?_ ?_ <;> intro h2 q2
 exfalso; simp_all; omega
 refine ac ?_
 refine Tr.seq (Tr.regT ?_)
 refine Tl rfl rfl rfl rfl z3 zo3 (fun b1 => ?_)
 refine ap ?_
 refine an ?_ ?_ <;> intro h3 q3
 obtain rfl : k = 1 := by rw [← hk]; unfold bitI; simp_all
 refine ap ?_
 refine ap ?_
 refine TO.callD _ rfl rfl (by decide) rfl (w_setNY (c := c) (b := b) h) ⟨ke rfl, ke rfl, trivial⟩ ((perm_at (j := 1) rfl).trans (List.Perm.cons _ ((perm_at (j := 0) rfl).trans (List.Perm.cons _ (List.Perm.refl _))))) ?_
 refine ap ?_
 refine ap ?_
 refine Tr.drop 1 (wk1 6 rfl ?_)
 refine ac ?_
 refine Tr.ret (Fin.retD rfl (RVal.tmp rfl (Lr)) ?_ (List.Perm.refl _))
 · exact Lr
 obtain rfl : k = 0 := by rw [← hk]; unfold bitI; simp_all
 refine ac ?_
 refine ap ?_
 refine TO.callD _ rfl rfl (by decide) rfl (w_setNY (c := c) (b := b) h) ⟨ke rfl, ke rfl, trivial⟩ ((perm_at (j := 1) rfl).trans (List.Perm.cons _ ((perm_at (j := 0) rfl).trans (List.Perm.cons _ (List.Perm.refl _))))) ?_
 refine ap ?_
 refine ap ?_
 refine Tr.drop 1 (wk1 6 rfl ?_)
 refine ac ?_
 refine Tr.ret (Fin.retD rfl (RVal.tmp rfl (Lr)) ?_ (List.Perm.refl _))
 · exact Lr
theorem w_fsetOrderY {e : Ept} {c b : Chg} {wb ob : Nat} {p3 p5 p6 p7 : Pr} {k : Int}  (hr : 0 ≤ c.number ∧ c.number ≤ 1) (hk : bitI e.own = k) (h : k ≠ c.number) : FunD prog 178 [ptr wb 0] [resW wb ob c b, resO ob e p3 p5 p6 p7] (int 0) [resW wb ob c ⟨b.endpoint, c.kind, k, b.at_, b.idn⟩, resO ob { e with own := (c.number == 1) } p3 p5 p6 p7] := by
 refine FunD.of func178 rfl rfl (by exact Nb rfl) fun M0 w0 S rs M1 w1 => ?_
 refine ac ?_
 refine ap ?_
 refine TO.callD _ rfl rfl (by decide) rfl (w_flagOrderY (e := e) (c := c) (b := b) hr hk h) ⟨ke rfl, ke rfl, trivial⟩ ((perm_at (j := 0) rfl).trans (List.Perm.cons _ ((perm_at (j := 0) rfl).trans (List.Perm.cons _ (List.Perm.refl _))))) ?_
 refine ap ?_
 refine Tr.ret (Fin.retD rfl (RVal.tmp rfl (Lr)) ?_ (List.Perm.refl _))
 · exact Lr
theorem w_CopyEa {e : Ept} (hsm : e.small) : FunV prog 116 [agg (rowEp e)] (fun x => agg (rowO e (ints e.suites) (idns e.ids) (is x) (ints e.hashes))) (fun x => [oweRes 3 1 (e.anchors.map fun n => [int n]) x]) := by
 refine FunV.of func116 rfl rfl (by exact Nb rfl) fun M0 w0 S rs M1 w1 => ?_
 have hs1 := hsm.suites
 have hs2 := hsm.anchors
 have hs3 := hsm.hashes
 have hs4 := hsm.idl
 refine Tr.seq (Tr.regT ?_)
 refine TO.boxm rfl rfl (by decide) rfl (Va rfl) (fun b1 => ?_)
 refine Tl rfl rfl rfl rfl z32 zo32 (fun b2 => ?_)
 refine ao ?_
 refine Tr.seq (Tr.pad (Tr.pad (Tr.rx ?_)))
 refine ax ?_
 refine xo rfl (fun _ => kc1 (w_CloneFi (l := e.suites) hs1) rfl rfl) ?_
 refine ax ?_
 refine Cx.ef 0 rfl rfl (by decide) (ef_call rfl rfl (by decide) rfl (w_CloneWi (l := e.anchors) hs2) ⟨ke rfl, trivial⟩) ?_
 refine ax ?_
 refine xo rfl (fun _ => kc1 (w_CloneFi (l := e.hashes) hs3) rfl rfl) ?_
 refine ax ?_
 refine Cx.ef 1 rfl rfl (by decide) (ef_call rfl rfl (by decide) rfl (w_CloneWn (l := e.ids) hs4) ⟨ke rfl, trivial⟩) ?_
 refine xo rfl (fun _ => okp_fieldAddr rfl fo32_3 (vl rfl)) (Cx.ef0 3 rfl rfl (ef_store rfl rfl (vl rfl) (Vo rfl) sz22 rfl (by exact Nb rfl) rfl) (xo rfl (fun _ => okp_fieldAddr rfl fo32_6 (vl rfl)) (Cx.ef0 3 rfl rfl (ef_storeS rfl rfl rfl (vl rfl) rfl sz22 (by exact Nb rfl)) (xo rfl (fun _ => okp_fieldAddr rfl fo32_7 (vl rfl)) (Cx.ef0 3 rfl rfl (ef_storeW rfl rfl rfl (vl rfl) (Vo rfl) sz22 rfl (fun _ => by exact Nat.le_of_ble_eq_true rfl)) (xo rfl (fun _ => okp_fieldAddr rfl fo32_5 (vl rfl)) (Cx.ef0 3 rfl rfl (ef_storeT rfl rfl rfl (vl rfl) rfl sz30 (fun _ => by exact Nat.le_of_ble_eq_true rfl)) ?_)))))))
 refine Cx.nil ⟨by kernel_rfl, ?_⟩
 refine FinX.open3 0 1 3 10 16 rfl rfl rfl (by decide) (by decide) (by decide) (by decide) rfl rfl (fun v1 v2 => ?_)
 refine FinX.done al5 (Fin.go (wk2 1 2 rfl ?_))
 refine ac ?_
 refine co rfl (ok_rd 1 rfl (rd_lenW rfl underlying30 (Ka rfl))) ?_
 refine ac ?_
 refine Tr.block (Tr.re 23 rfl (int_eq (by rw [List.length_map])) (Tr.loopw [(1, _), (2, _), (22, _), (23, _)] (kk4 rfl) (fun k : Nat => [(24, int ((k : Nat) : Int))]) (fun k : Nat => k ≤ (e.ids).length) (fun k : Nat => (e.ids).length - k) 0 (Nat.zero_le _) ⟨ke rfl, trivial⟩ ?_))
 rintro k hle_k
 refine ac ?_
 refine Tr.seq ?_
 refine Tr.cn rfl ?_ ?_ <;> intro h1 q1
 have hk_k : k < (e.ids).length := lt_of_dec h1
 obtain ⟨x, hx_k⟩ := at_ hk_k
 have hxs := hsm.ids x (List.mem_of_getElem? hx_k)
 refine ac ?_
 refine ao ?_
 refine tp rfl (ok_rd 1 rfl (rd_elp rfl underlying30 sz27 (Ka rfl) (vl rfl) (by omega) (by rw [List.length_map]; omega))) ?_
 refine tp rfl (ok_rd 1 rfl (rd_elload rfl agg27 sz27 (vl rfl) (map_rows fun _ => rfl) (by rw [Int.toNat_natCast, List.getElem?_map, hx_k]; rfl))) ?_
 refine Tl rfl rfl rfl rfl z27 zo27 (fun b3 => ?_)
 refine tm rfl ?_
 refine sf 0 4 ⟨rfl, rfl, rfl⟩ rfl rfl rfl rfl ?_
 refine ao ?_
 refine Tr.rx ?_
 refine ax ?_
 refine xo rfl (fun _ => kc1 (w_copyId hxs) rfl rfl) ?_
 refine xrd 1 rfl rfl (rd_elp rfl underlying30 sz27 (Ka rfl) (vl rfl) (by omega) (by rw [List.length_map]; omega)) ?_
 refine Cx.ef0 1 rfl rfl (ef_elstore rfl rfl (vl rfl) (Va rfl) sz27 rfl (map_rows fun _ => rfl) (by rw [Int.toNat_natCast, List.getElem?_map, hx_k]; rfl) (by decide) (row_setI (f := rowId) (q := 0) (m := 4) hx_k rfl)) ?_
 refine Cx.nil ⟨by kernel_rfl, ?_⟩
 refine FinX.done al5 ?_
 refine ac ?_
 refine wk5 1 2 22 23 24 rfl ?_
 refine ac ?_
 exact Fin.fam_same (k + 1) ⟨hk_k, by omega⟩ ⟨⟨_, rfl, int_succ k⟩, ke rfl, ke rfl, ke rfl, ke rfl, trivial⟩
 have he_k : k = (e.ids).length := by have := ge_of_dec h1; omega
 subst he_k
 refine ac ?_
 refine Tr.seq (Tr.frzWC 3 1 5 rfl rfl (by decide) rfl (andIs_is _ _) (map_rows fun _ => rfl) ?_)
 refine ao ?_
 refine TO.store_all 2 rfl rfl rfl (vl rfl) (Va rfl) rfl sz32 rfl rfl ?_
 refine ao ?_
 refine Tr.drop 1 (Tr.drop 2 (Tr.ret (Fin.swap01 (Fin.retV v1 [_] rfl (RVal.cell 0 rfl rfl agg32 sz32 rfl (Lr)) ?_ (List.Perm.refl _)))))
 · exact agg_le ⟨Lr, Lr, Lr, Lr, Lr, Lr, andIs_is _ _, Lr, Lr, trivial⟩
theorem w_CopyEh {e : Ept} (hsm : e.small) : FunV prog 116 [agg (rowEp e)] (fun x => agg (rowO e (ints e.suites) (idns e.ids) (ints e.anchors) (is x))) (fun x => [oweRes 3 1 (e.hashes.map fun n => [int n]) x]) := by
 refine FunV.of func116 rfl rfl (by exact Nb rfl) fun M0 w0 S rs M1 w1 => ?_
 have hs1 := hsm.suites
 have hs2 := hsm.anchors
 have hs3 := hsm.hashes
 have hs4 := hsm.idl
 refine Tr.seq (Tr.regT ?_)
 refine TO.boxm rfl rfl (by decide) rfl (Va rfl) (fun b1 => ?_)
 refine Tl rfl rfl rfl rfl z32 zo32 (fun b2 => ?_)
 refine ao ?_
 refine Tr.seq (Tr.pad (Tr.pad (Tr.rx ?_)))
 refine ax ?_
 refine xo rfl (fun _ => kc1 (w_CloneFi (l := e.suites) hs1) rfl rfl) ?_
 refine ax ?_
 refine xo rfl (fun _ => kc1 (w_CloneFi (l := e.anchors) hs2) rfl rfl) ?_
 refine ax ?_
 refine Cx.ef 0 rfl rfl (by decide) (ef_call rfl rfl (by decide) rfl (w_CloneWi (l := e.hashes) hs3) ⟨ke rfl, trivial⟩) ?_
 refine ax ?_
 refine Cx.ef 1 rfl rfl (by decide) (ef_call rfl rfl (by decide) rfl (w_CloneWn (l := e.ids) hs4) ⟨ke rfl, trivial⟩) ?_
 refine xo rfl (fun _ => okp_fieldAddr rfl fo32_3 (vl rfl)) (Cx.ef0 3 rfl rfl (ef_store rfl rfl (vl rfl) (Vo rfl) sz22 rfl (by exact Nb rfl) rfl) (xo rfl (fun _ => okp_fieldAddr rfl fo32_6 (vl rfl)) (Cx.ef0 3 rfl rfl (ef_store rfl rfl (vl rfl) (Vo rfl) sz22 rfl (by exact Nb rfl) rfl) (xo rfl (fun _ => okp_fieldAddr rfl fo32_7 (vl rfl)) (Cx.ef0 3 rfl rfl (ef_storeS rfl rfl rfl (vl rfl) rfl sz22 (by exact Nb rfl)) (xo rfl (fun _ => okp_fieldAddr rfl fo32_5 (vl rfl)) (Cx.ef0 3 rfl rfl (ef_storeT rfl rfl rfl (vl rfl) rfl sz30 (fun _ => by exact Nat.le_of_ble_eq_true rfl)) ?_)))))))
 refine Cx.nil ⟨by kernel_rfl, ?_⟩
 refine FinX.open3 0 1 3 13 16 rfl rfl rfl (by decide) (by decide) (by decide) (by decide) rfl rfl (fun v1 v2 => ?_)
 refine FinX.done al5 (Fin.go (wk2 1 2 rfl ?_))
 refine ac ?_
 refine co rfl (ok_rd 1 rfl (rd_lenW rfl underlying30 (Ka rfl))) ?_
 refine ac ?_
 refine Tr.block (Tr.re 23 rfl (int_eq (by rw [List.length_map])) (Tr.loopw [(1, _), (2, _), (22, _), (23, _)] (kk4 rfl) (fun k : Nat => [(24, int ((k : Nat) : Int))]) (fun k : Nat => k ≤ (e.ids).length) (fun k : Nat => (e.ids).length - k) 0 (Nat.zero_le _) ⟨ke rfl, trivial⟩ ?_))
 rintro k hle_k
 refine ac ?_
 refine Tr.seq ?_
 refine Tr.cn rfl ?_ ?_ <;> intro h1 q1
 have hk_k : k < (e.ids).length := lt_of_dec h1
 obtain ⟨x, hx_k⟩ := at_ hk_k
 have hxs := hsm.ids x (List.mem_of_getElem? hx_k)
 refine ac ?_
 refine ao ?_
 refine tp rfl (ok_rd 1 rfl (rd_elp rfl underlying30 sz27 (Ka rfl) (vl rfl) (by omega) (by rw [List.length_map]; omega))) ?_
 refine tp rfl (ok_rd 1 rfl (rd_elload rfl agg27 sz27 (vl rfl) (map_rows fun _ => rfl) (by rw [Int.toNat_natCast, List.getElem?_map, hx_k]; rfl))) ?_
 refine Tl rfl rfl rfl rfl z27 zo27 (fun b3 => ?_)
 refine tm rfl ?_
 refine sf 0 4 ⟨rfl, rfl, rfl⟩ rfl rfl rfl rfl ?_
 refine ao ?_
 refine Tr.rx ?_
 refine ax ?_
 refine xo rfl (fun _ => kc1 (w_copyId hxs) rfl rfl) ?_
 refine xrd 1 rfl rfl (rd_elp rfl underlying30 sz27 (Ka rfl) (vl rfl) (by omega) (by rw [List.length_map]; omega)) ?_
 refine Cx.ef0 1 rfl rfl (ef_elstore rfl rfl (vl rfl) (Va rfl) sz27 rfl (map_rows fun _ => rfl) (by rw [Int.toNat_natCast, List.getElem?_map, hx_k]; rfl) (by decide) (row_setI (f := rowId) (q := 0) (m := 4) hx_k rfl)) ?_
 refine Cx.nil ⟨by kernel_rfl, ?_⟩
 refine FinX.done al5 ?_
 refine ac ?_
 refine wk5 1 2 22 23 24 rfl ?_
 refine ac ?_
 exact Fin.fam_same (k + 1) ⟨hk_k, by omega⟩ ⟨⟨_, rfl, int_succ k⟩, ke rfl, ke rfl, ke rfl, ke rfl, trivial⟩
 have he_k : k = (e.ids).length := by have := ge_of_dec h1; omega
 subst he_k
 refine ac ?_
 refine Tr.seq (Tr.frzWC 3 1 5 rfl rfl (by decide) rfl (andIs_is _ _) (map_rows fun _ => rfl) ?_)
 refine ao ?_
 refine TO.store_all 2 rfl rfl rfl (vl rfl) (Va rfl) rfl sz32 rfl rfl ?_
 refine ao ?_
 refine Tr.drop 1 (Tr.drop 2 (Tr.ret (Fin.swap01 (Fin.retV v1 [_] rfl (RVal.cell 0 rfl rfl agg32 sz32 rfl (Lr)) ?_ (List.Perm.refl _)))))
 · exact agg_le ⟨Lr, Lr, Lr, Lr, Lr, Lr, Lr, andIs_is _ _, Lr, trivial⟩
theorem w_CopyEz {e : Ept} (hsm : e.small) : Fun prog 116 [agg (rowEp e)] (agg (rowEp e)) := by
 refine fo func116 rfl ⟨rfl, rfl⟩ fun M0 w0 => ?_
 have hs1 := hsm.suites
 have hs2 := hsm.anchors
 have hs3 := hsm.hashes
 have hs4 := hsm.idl
 refine Tr.seq (Tr.regT ?_)
 refine TO.boxm rfl rfl (by decide) rfl (Va rfl) (fun b1 => ?_)
 refine Tl rfl rfl rfl rfl z32 zo32 (fun b2 => ?_)
 refine ao ?_
 refine Tr.seq (Tr.pad (Tr.rx ?_))
 refine ax ?_
 refine xo rfl (fun _ => kc1 (w_CloneFi (l := e.suites) hs1) rfl rfl) ?_
 refine ax ?_
 refine xo rfl (fun _ => kc1 (w_CloneFi (l := e.anchors) hs2) rfl rfl) ?_
 refine ax ?_
 refine xo rfl (fun _ => kc1 (w_CloneFi (l := e.hashes) hs3) rfl rfl) ?_
 refine ax ?_
 refine Cx.ef 0 rfl rfl (by decide) (ef_call rfl rfl (by decide) rfl (w_CloneWn (l := e.ids) hs4) ⟨ke rfl, trivial⟩) ?_
 refine xo rfl (fun _ => okp_fieldAddr rfl fo32_3 (vl rfl)) (Cx.ef0 2 rfl rfl (ef_store rfl rfl (vl rfl) (Vo rfl) sz22 rfl (by exact Nb rfl) rfl) (xo rfl (fun _ => okp_fieldAddr rfl fo32_6 (vl rfl)) (Cx.ef0 2 rfl rfl (ef_store rfl rfl (vl rfl) (Vo rfl) sz22 rfl (by exact Nb rfl) rfl) (xo rfl (fun _ => okp_fieldAddr rfl fo32_7 (vl rfl)) (Cx.ef0 2 rfl rfl (ef_store rfl rfl (vl rfl) (Vo rfl) sz22 rfl (by exact Nb rfl) rfl) (xo rfl (fun _ => okp_fieldAddr rfl fo32_5 (vl rfl)) (Cx.ef0 2 rfl rfl (ef_storeS rfl rfl rfl (vl rfl) rfl sz30 (by exact Nb rfl)) ?_)))))))
 refine Cx.nil ⟨by kernel_rfl, ?_⟩
 refine FinX.open2 0 2 16 rfl rfl (by decide) rfl (fun v1 => ?_)
 refine FinX.done al3 (Fin.go (wk2 1 2 rfl ?_))
 refine ac ?_
 refine co rfl (ok_rd 0 rfl (rd_lenW rfl underlying30 (Ka rfl))) ?_
 refine ac ?_
 refine Tr.block (Tr.re 23 rfl (int_eq (by rw [List.length_map])) (Tr.loopw [(1, _), (2, _), (22, _), (23, _)] (kk4 rfl) (fun k : Nat => [(24, int ((k : Nat) : Int))]) (fun k : Nat => k ≤ (e.ids).length) (fun k : Nat => (e.ids).length - k) 0 (Nat.zero_le _) ⟨ke rfl, trivial⟩ ?_))
 rintro k hle_k
 refine ac ?_
 refine Tr.seq ?_
 refine Tr.cn rfl ?_ ?_ <;> intro h1 q1
 have hk_k : k < (e.ids).length := lt_of_dec h1
 obtain ⟨x, hx_k⟩ := at_ hk_k
 have hxs := hsm.ids x (List.mem_of_getElem? hx_k)
 refine ac ?_
 refine ao ?_
 refine tp rfl (ok_rd 0 rfl (rd_elp rfl underlying30 sz27 (Ka rfl) (vl rfl) (by omega) (by rw [List.length_map]; omega))) ?_
 refine tp rfl (ok_rd 0 rfl (rd_elload rfl agg27 sz27 (vl rfl) (map_rows fun _ => rfl) (by rw [Int.toNat_natCast, List.getElem?_map, hx_k]; rfl))) ?_
 refine Tl rfl rfl rfl rfl z27 zo27 (fun b3 => ?_)
 refine tm rfl ?_
 refine sf 0 4 ⟨rfl, rfl, rfl⟩ rfl rfl rfl rfl ?_
 refine ao ?_
 refine Tr.rx ?_
 refine ax ?_
 refine xo rfl (fun _ => kc1 (w_copyId hxs) rfl rfl) ?_
 refine xrd 0 rfl rfl (rd_elp rfl underlying30 sz27 (Ka rfl) (vl rfl) (by omega) (by rw [List.length_map]; omega)) ?_
 refine Cx.ef0 0 rfl rfl (ef_elstore rfl rfl (vl rfl) (Va rfl) sz27 rfl (map_rows fun _ => rfl) (by rw [Int.toNat_natCast, List.getElem?_map, hx_k]; rfl) (by decide) (row_setI (f := rowId) (q := 0) (m := 4) hx_k rfl)) ?_
 refine Cx.nil ⟨by kernel_rfl, ?_⟩
 refine FinX.done al3 ?_
 refine ac ?_
 refine wk5 1 2 22 23 24 rfl ?_
 refine ac ?_
 exact Fin.fam_same (k + 1) ⟨hk_k, by omega⟩ ⟨⟨_, rfl, int_succ k⟩, ke rfl, ke rfl, ke rfl, ke rfl, trivial⟩
 have he_k : k = (e.ids).length := by have := ge_of_dec h1; omega
 subst he_k
 refine ac ?_
 refine Tr.seq (Tr.frzWC 2 0 5 rfl rfl (by decide) rfl (andIs_is _ _) (map_rows fun _ => rfl) ?_)
 refine ao ?_
 refine TO.store_all 1 rfl rfl rfl (vl rfl) (Va rfl) rfl sz32 rfl rfl ?_
 refine ao ?_
 refine Tr.drop 0 (Tr.drop 1 (Tr.ret (Fin.retX1 rfl (RVal.cell 0 rfl rfl agg32 sz32 rfl (Lr)) ?_)))
 · exact Lr
def doneX (e2 : Ept) (b : Chg) (err : Int) : Ept × Chg × Int := if err ≠ 0 then (zeroEp, zeroChg, err) else if eptB e2 = true then (e2, b, 0) else (zeroEp, zeroChg, 18)

theorem w_doneXn {e e2 : Ept} {c b : Chg} {fk : Nat} {err : Int} (hf : e.fits) (hsm : e.small) (hce : eptB e = true) (hk : 1 ≤ c.kind ∧ c.kind ≤ 12) (hlean : leanB c = true) (hkp : kindsP[c.kind.toNat]? = some (fn (.func fk) [])) (hbk : b.idn.small) (hf2 : e2.fits) (hm : (err ≠ 0 ∧ ∀ (wb ob : Nat) (v : Value), FunD prog fk [ptr wb 0] [resW wb ob c (back0 c), resO ob e (ints e.suites) (is v) (ints e.anchors) (ints e.hashes), oweRes 27 4 (e.ids.map rowId) v] (int err) []) ∨ (err = 0 ∧ ∀ (wb ob : Nat) (v : Value), FunD prog fk [ptr wb 0] [resW wb ob c (back0 c), resO ob e (ints e.suites) (is v) (ints e.anchors) (ints e.hashes), oweRes 27 4 (e.ids.map rowId) v] (int 0) [resW wb ob c b, cellsRes true ob 32 (rowEp e2)])) : Fun prog 74 [agg (rowEp e), agg (rowChg c)] (tup [agg (rowEp (doneX e2 b err).1), agg (rowChg (doneX e2 b err).2.1), int (doneX e2 b err).2.2]) := by
 refine fo func74 rfl ⟨rfl, rfl⟩ fun M0 w0 => (Tr.seq (Tr.regT (tp rfl (ok_box rfl (Va rfl)) (tp rfl (ok_box rfl (Va rfl)) ?_))))
 refine Tl rfl rfl rfl rfl z32 zo32 (fun b1 => ?_)
 refine Tl rfl rfl rfl rfl z29 zo29 (fun b2 => ?_)
 refine ap ?_
 refine ac ?_
 refine co rfl (kc1 (w_ECheck hf) rfl rfl) ?_
 refine an ?_ ?_ <;> intro h1 q1
 exfalso; rw [if_pos hce] at h1; exact absurd h1 (by decide)
 refine ac ?_
 refine ag ?_ ?_ <;> intro h2 q2
 exfalso; have := q2; omega
 refine ag ?_ ?_ <;> intro h3 q3
 exfalso; have := q3; omega
 refine cy h3 rfl (ok_loadA rfl agg29 sz29 (vl rfl) rfl rfl) ?_
 refine cy h3 rfl (kc1 (w_lean (c := c)) rfl rfl) ?_
 refine ac ?_
 refine wk5 2 3 4 5 27 rfl ?_
 refine Tr.cn rfl ?_ ?_ <;> intro h4 q4
 rw [hlean] at h4; exact absurd h4 (by decide)
 refine ac ?_
 refine ap ?_
 refine TO.callV rfl rfl (by decide) rfl (w_CopyEn hsm) ⟨ke rfl, trivial⟩ (fun v1 => ?_)
 refine Tl rfl rfl rfl rfl z32 zo32 (fun b3 => ?_)
 refine ap ?_
 refine ap ?_
 refine TO.boxm rfl rfl (by decide) rfl (Va rfl) (fun b4 => ?_)
 refine ap ?_
 refine wk5 3 4 5 7 8 rfl (Tr.seq (Tr.seq (Tr.leC 0 (ptr b3 0 :: rowWt c (back0 c)) rfl ⟨Lr, Lr, Lr, Lr, Lr, Lr, Lr, Lr, Lr, Lr, Lr, Lr, Lr, Lr, Lr, Lr, nil_slice 15, trivial⟩ ?_)))
 rcases hm with ⟨he, hm⟩ | ⟨he, hm⟩
 refine Tr.regOne mixed 5 (by kernel_rfl) (ChOne.op rfl rfl (by decide) (kc0 (w_kinds) rfl) (ChOne.op rfl rfl (by decide) (kfa rfl fo29_1 rfl rfl) (ChOne.op rfl rfl (by decide) (kl1 rfl one3 rfl) (ChOne.op rfl rfl (by decide) (ok_index1 rfl underlying161 one160 sz160 (vl rfl) (vl rfl) (by omega) (by omega) hkp) (ChOne.op rfl rfl (by decide) (ok_move rfl (vl rfl)) ?_)))))
 refine ChOne.turn _ rfl (by decide) (turn_callv _ rfl rfl (vl rfl) (hm _ _ _) ⟨ke rfl, trivial⟩ ((perm_at (j := 0) rfl).trans (List.Perm.cons _ ((perm_at (j := 0) rfl).trans (List.Perm.cons _ ((perm_at (j := 0) rfl).trans (List.Perm.cons _ (List.Perm.refl _)))))))) ?_
 refine a2 ?_
 refine wk6 4 5 7 8 9 45 rfl ?_
 refine Tr.cn rfl ?_ ?_ <;> intro h5 q5
 have hX : doneX e2 b err = (zeroEp, zeroChg, err) := if_pos he
 refine ap ?_
 refine Tr.ret (Fin.then_ret (Fin.retX3 rfl (RVal.cell 1 rfl rfl agg32 sz32 rfl (Lr)) (RVal.cell 0 rfl rfl agg29 sz29 rfl (Lr)) (RVal.tmp rfl (Lr)) ?_))
 refine tup_le ⟨?_, ?_, ?_, trivial⟩
 · rw [hX]; exact agg_le ⟨Lr, Lr, Lr, nil_slice 1, Lr, nil_slice 4, nil_slice 1, nil_slice 1, Lr, trivial⟩
 · rw [hX]; exact agg_le ⟨Lr, Lr, Lr, Lr, Lr, Lr, Lr, nil_slice 15, trivial⟩
 · exact int_eq (by rw [hX])
 exfalso; have := q5; omega
 refine Tr.regOne mixed 5 (by kernel_rfl) (ChOne.op rfl rfl (by decide) (kc0 (w_kinds) rfl) (ChOne.op rfl rfl (by decide) (kfa rfl fo29_1 rfl rfl) (ChOne.op rfl rfl (by decide) (kl1 rfl one3 rfl) (ChOne.op rfl rfl (by decide) (ok_index1 rfl underlying161 one160 sz160 (vl rfl) (vl rfl) (by omega) (by omega) hkp) (ChOne.op rfl rfl (by decide) (ok_move rfl (vl rfl)) ?_)))))
 refine ChOne.turn _ rfl (by decide) (turn_callv _ rfl rfl (vl rfl) (hm _ _ _) ⟨ke rfl, trivial⟩ ((perm_at (j := 0) rfl).trans (List.Perm.cons _ ((perm_at (j := 0) rfl).trans (List.Perm.cons _ ((perm_at (j := 0) rfl).trans (List.Perm.cons _ (List.Perm.refl _)))))))) ?_
 refine a2 ?_
 refine wk6 4 5 7 8 9 45 rfl ?_
 refine Tr.cn rfl ?_ ?_ <;> intro h6 q6
 exact absurd h6 (by decide)
 refine a2 ?_
 refine co rfl (kc1 (w_ECheck (e := e2) hf2) rfl rfl) ?_
 refine an ?_ ?_ <;> intro h7 q7
 have hce2 : ¬ eptB e2 = true := by intro h_; rw [if_pos h_] at h7; exact absurd h7 (by decide)
 have hX : doneX e2 b err = (zeroEp, zeroChg, 18) := (if_neg (fun h_ => h_ he)).trans (if_neg hce2)
 refine ap ?_
 refine Tr.ret (Fin.then_ret (Fin.retX3 rfl (RVal.cell 3 rfl rfl agg32 sz32 rfl (Lr)) (RVal.cell 2 rfl rfl agg29 sz29 rfl (Lr)) (RVal.tmp rfl (Lr)) ?_))
 refine tup_le ⟨?_, ?_, ?_, trivial⟩
 · rw [hX]; exact agg_le ⟨Lr, Lr, Lr, nil_slice 1, Lr, nil_slice 4, nil_slice 1, nil_slice 1, Lr, trivial⟩
 · rw [hX]; exact agg_le ⟨Lr, Lr, Lr, Lr, Lr, Lr, Lr, nil_slice 15, trivial⟩
 · exact int_eq (by rw [hX])
 have hce2 : eptB e2 = true := Decidable.byContradiction fun h_ => by rw [if_neg h_] at h7; exact absurd h7 (by decide)
 have hX : doneX e2 b err = (e2, b, 0) := (if_neg (fun h_ => h_ he)).trans (if_pos hce2)
 refine ac ?_
 refine Tr.seq (Tr.rx ?_)
 refine ay ?_
 refine xo rfl (fun _ => kc1 (w_CopyC (c := b) hbk) rfl rfl) ?_
 refine ay ?_
 refine Cx.nil ⟨by kernel_rfl, ?_⟩
 refine FinX.done al4 (Fin.go (wk3 4 5 6 rfl (Tr.ret (Fin.retX3 rfl (RVal.cell 3 rfl rfl agg32 sz32 rfl (Lr)) (RVal.cell 2 rfl rfl agg29 sz29 rfl (Lr)) (RVal.tmp rfl (Lr)) ?_))))
 refine tup_le ⟨?_, ?_, ?_, trivial⟩
 · rw [hX]; exact Lr
 · rw [hX]; exact Lr
 · exact int_eq (by rw [hX])
theorem w_doneXs {e e2 : Ept} {c b : Chg} {fk : Nat} {err : Int} (hf : e.fits) (hsm : e.small) (hce : eptB e = true) (hk : 1 ≤ c.kind ∧ c.kind ≤ 12) (hlean : leanB c = true) (hkp : kindsP[c.kind.toNat]? = some (fn (.func fk) [])) (hbk : b.idn.small) (hf2 : e2.fits) (hm : (err ≠ 0 ∧ ∀ (wb ob : Nat) (v : Value), FunD prog fk [ptr wb 0] [resW wb ob c (back0 c), resO ob e (is v) (idns e.ids) (ints e.anchors) (ints e.hashes), oweRes 3 1 (e.suites.map fun n => [int n]) v] (int err) []) ∨ (err = 0 ∧ ∀ (wb ob : Nat) (v : Value), FunD prog fk [ptr wb 0] [resW wb ob c (back0 c), resO ob e (is v) (idns e.ids) (ints e.anchors) (ints e.hashes), oweRes 3 1 (e.suites.map fun n => [int n]) v] (int 0) [resW wb ob c b, cellsRes true ob 32 (rowEp e2)])) : Fun prog 74 [agg (rowEp e), agg (rowChg c)] (tup [agg (rowEp (doneX e2 b err).1), agg (rowChg (doneX e2 b err).2.1), int (doneX e2 b err).2.2]) := by
 refine fo func74 rfl ⟨rfl, rfl⟩ fun M0 w0 => (Tr.seq (Tr.regT (tp rfl (ok_box rfl (Va rfl)) (tp rfl (ok_box rfl (Va rfl)) ?_))))
 refine Tl rfl rfl rfl rfl z32 zo32 (fun b1 => ?_)
 refine Tl rfl rfl rfl rfl z29 zo29 (fun b2 => ?_)
 refine ap ?_
 refine ac ?_
 refine co rfl (kc1 (w_ECheck hf) rfl rfl) ?_
 refine an ?_ ?_ <;> intro h1 q1
 exfalso; rw [if_pos hce] at h1; exact absurd h1 (by decide)
 refine ac ?_
 refine ag ?_ ?_ <;> intro h2 q2
 exfalso; have := q2; omega
 refine ag ?_ ?_ <;> intro h3 q3
 exfalso; have := q3; omega
 refine cy h3 rfl (ok_loadA rfl agg29 sz29 (vl rfl) rfl rfl) ?_
 refine cy h3 rfl (kc1 (w_lean (c := c)) rfl rfl) ?_
 refine ac ?_
 refine wk5 2 3 4 5 27 rfl ?_
 refine Tr.cn rfl ?_ ?_ <;> intro h4 q4
 rw [hlean] at h4; exact absurd h4 (by decide)
 refine ac ?_
 refine ap ?_
 refine TO.callV rfl rfl (by decide) rfl (w_CopyEs hsm) ⟨ke rfl, trivial⟩ (fun v1 => ?_)
 refine Tl rfl rfl rfl rfl z32 zo32 (fun b3 => ?_)
 refine ap ?_
 refine ap ?_
 refine TO.boxm rfl rfl (by decide) rfl (Va rfl) (fun b4 => ?_)
 refine ap ?_
 refine wk5 3 4 5 7 8 rfl (Tr.seq (Tr.seq (Tr.leC 0 (ptr b3 0 :: rowWt c (back0 c)) rfl ⟨Lr, Lr, Lr, Lr, Lr, Lr, Lr, Lr, Lr, Lr, Lr, Lr, Lr, Lr, Lr, Lr, nil_slice 15, trivial⟩ ?_)))
 rcases hm with ⟨he, hm⟩ | ⟨he, hm⟩
 refine Tr.regOne mixed 5 (by kernel_rfl) (ChOne.op rfl rfl (by decide) (kc0 (w_kinds) rfl) (ChOne.op rfl rfl (by decide) (kfa rfl fo29_1 rfl rfl) (ChOne.op rfl rfl (by decide) (kl1 rfl one3 rfl) (ChOne.op rfl rfl (by decide) (ok_index1 rfl underlying161 one160 sz160 (vl rfl) (vl rfl) (by omega) (by omega) hkp) (ChOne.op rfl rfl (by decide) (ok_move rfl (vl rfl)) ?_)))))
 refine ChOne.turn _ rfl (by decide) (turn_callv _ rfl rfl (vl rfl) (hm _ _ _) ⟨ke rfl, trivial⟩ ((perm_at (j := 0) rfl).trans (List.Perm.cons _ ((perm_at (j := 0) rfl).trans (List.Perm.cons _ ((perm_at (j := 0) rfl).trans (List.Perm.cons _ (List.Perm.refl _)))))))) ?_
 refine a2 ?_
 refine wk6 4 5 7 8 9 45 rfl ?_
 refine Tr.cn rfl ?_ ?_ <;> intro h5 q5
 have hX : doneX e2 b err = (zeroEp, zeroChg, err) := if_pos he
 refine ap ?_
 refine Tr.ret (Fin.then_ret (Fin.retX3 rfl (RVal.cell 1 rfl rfl agg32 sz32 rfl (Lr)) (RVal.cell 0 rfl rfl agg29 sz29 rfl (Lr)) (RVal.tmp rfl (Lr)) ?_))
 refine tup_le ⟨?_, ?_, ?_, trivial⟩
 · rw [hX]; exact agg_le ⟨Lr, Lr, Lr, nil_slice 1, Lr, nil_slice 4, nil_slice 1, nil_slice 1, Lr, trivial⟩
 · rw [hX]; exact agg_le ⟨Lr, Lr, Lr, Lr, Lr, Lr, Lr, nil_slice 15, trivial⟩
 · exact int_eq (by rw [hX])
 exfalso; have := q5; omega
 refine Tr.regOne mixed 5 (by kernel_rfl) (ChOne.op rfl rfl (by decide) (kc0 (w_kinds) rfl) (ChOne.op rfl rfl (by decide) (kfa rfl fo29_1 rfl rfl) (ChOne.op rfl rfl (by decide) (kl1 rfl one3 rfl) (ChOne.op rfl rfl (by decide) (ok_index1 rfl underlying161 one160 sz160 (vl rfl) (vl rfl) (by omega) (by omega) hkp) (ChOne.op rfl rfl (by decide) (ok_move rfl (vl rfl)) ?_)))))
 refine ChOne.turn _ rfl (by decide) (turn_callv _ rfl rfl (vl rfl) (hm _ _ _) ⟨ke rfl, trivial⟩ ((perm_at (j := 0) rfl).trans (List.Perm.cons _ ((perm_at (j := 0) rfl).trans (List.Perm.cons _ ((perm_at (j := 0) rfl).trans (List.Perm.cons _ (List.Perm.refl _)))))))) ?_
 refine a2 ?_
 refine wk6 4 5 7 8 9 45 rfl ?_
 refine Tr.cn rfl ?_ ?_ <;> intro h6 q6
 exact absurd h6 (by decide)
 refine a2 ?_
 refine co rfl (kc1 (w_ECheck (e := e2) hf2) rfl rfl) ?_
 refine an ?_ ?_ <;> intro h7 q7
 have hce2 : ¬ eptB e2 = true := by intro h_; rw [if_pos h_] at h7; exact absurd h7 (by decide)
 have hX : doneX e2 b err = (zeroEp, zeroChg, 18) := (if_neg (fun h_ => h_ he)).trans (if_neg hce2)
 refine ap ?_
 refine Tr.ret (Fin.then_ret (Fin.retX3 rfl (RVal.cell 3 rfl rfl agg32 sz32 rfl (Lr)) (RVal.cell 2 rfl rfl agg29 sz29 rfl (Lr)) (RVal.tmp rfl (Lr)) ?_))
 refine tup_le ⟨?_, ?_, ?_, trivial⟩
 · rw [hX]; exact agg_le ⟨Lr, Lr, Lr, nil_slice 1, Lr, nil_slice 4, nil_slice 1, nil_slice 1, Lr, trivial⟩
 · rw [hX]; exact agg_le ⟨Lr, Lr, Lr, Lr, Lr, Lr, Lr, nil_slice 15, trivial⟩
 · exact int_eq (by rw [hX])
 have hce2 : eptB e2 = true := Decidable.byContradiction fun h_ => by rw [if_neg h_] at h7; exact absurd h7 (by decide)
 have hX : doneX e2 b err = (e2, b, 0) := (if_neg (fun h_ => h_ he)).trans (if_pos hce2)
 refine ac ?_
 refine Tr.seq (Tr.rx ?_)
 refine ay ?_
 refine xo rfl (fun _ => kc1 (w_CopyC (c := b) hbk) rfl rfl) ?_
 refine ay ?_
 refine Cx.nil ⟨by kernel_rfl, ?_⟩
 refine FinX.done al4 (Fin.go (wk3 4 5 6 rfl (Tr.ret (Fin.retX3 rfl (RVal.cell 3 rfl rfl agg32 sz32 rfl (Lr)) (RVal.cell 2 rfl rfl agg29 sz29 rfl (Lr)) (RVal.tmp rfl (Lr)) ?_))))
 refine tup_le ⟨?_, ?_, ?_, trivial⟩
 · rw [hX]; exact Lr
 · rw [hX]; exact Lr
 · exact int_eq (by rw [hX])
theorem w_doneXa {e e2 : Ept} {c b : Chg} {fk : Nat} {err : Int} (hf : e.fits) (hsm : e.small) (hce : eptB e = true) (hk : 1 ≤ c.kind ∧ c.kind ≤ 12) (hlean : leanB c = true) (hkp : kindsP[c.kind.toNat]? = some (fn (.func fk) [])) (hbk : b.idn.small) (hf2 : e2.fits) (hm : (err ≠ 0 ∧ ∀ (wb ob : Nat) (v : Value), FunD prog fk [ptr wb 0] [resW wb ob c (back0 c), resO ob e (ints e.suites) (idns e.ids) (is v) (ints e.hashes), oweRes 3 1 (e.anchors.map fun n => [int n]) v] (int err) []) ∨ (err = 0 ∧ ∀ (wb ob : Nat) (v : Value), FunD prog fk [ptr wb 0] [resW wb ob c (back0 c), resO ob e (ints e.suites) (idns e.ids) (is v) (ints e.hashes), oweRes 3 1 (e.anchors.map fun n => [int n]) v] (int 0) [resW wb ob c b, cellsRes true ob 32 (rowEp e2)])) : Fun prog 74 [agg (rowEp e), agg (rowChg c)] (tup [agg (rowEp (doneX e2 b err).1), agg (rowChg (doneX e2 b err).2.1), int (doneX e2 b err).2.2]) := by
 refine fo func74 rfl ⟨rfl, rfl⟩ fun M0 w0 => (Tr.seq (Tr.regT (tp rfl (ok_box rfl (Va rfl)) (tp rfl (ok_box rfl (Va rfl)) ?_))))
 refine Tl rfl rfl rfl rfl z32 zo32 (fun b1 => ?_)
 refine Tl rfl rfl rfl rfl z29 zo29 (fun b2 => ?_)
 refine ap ?_
 refine ac ?_
 refine co rfl (kc1 (w_ECheck hf) rfl rfl) ?_
 refine an ?_ ?_ <;> intro h1 q1
 exfalso; rw [if_pos hce] at h1; exact absurd h1 (by decide)
 refine ac ?_
 refine ag ?_ ?_ <;> intro h2 q2
 exfalso; have := q2; omega
 refine ag ?_ ?_ <;> intro h3 q3
 exfalso; have := q3; omega
 refine cy h3 rfl (ok_loadA rfl agg29 sz29 (vl rfl) rfl rfl) ?_
 refine cy h3 rfl (kc1 (w_lean (c := c)) rfl rfl) ?_
 refine ac ?_
 refine wk5 2 3 4 5 27 rfl ?_
 refine Tr.cn rfl ?_ ?_ <;> intro h4 q4
 rw [hlean] at h4; exact absurd h4 (by decide)
 refine ac ?_
 refine ap ?_
 refine TO.callV rfl rfl (by decide) rfl (w_CopyEa hsm) ⟨ke rfl, trivial⟩ (fun v1 => ?_)
 refine Tl rfl rfl rfl rfl z32 zo32 (fun b3 => ?_)
 refine ap ?_
 refine ap ?_
 refine TO.boxm rfl rfl (by decide) rfl (Va rfl) (fun b4 => ?_)
 refine ap ?_
 refine wk5 3 4 5 7 8 rfl (Tr.seq (Tr.seq (Tr.leC 0 (ptr b3 0 :: rowWt c (back0 c)) rfl ⟨Lr, Lr, Lr, Lr, Lr, Lr, Lr, Lr, Lr, Lr, Lr, Lr, Lr, Lr, Lr, Lr, nil_slice 15, trivial⟩ ?_)))
 rcases hm with ⟨he, hm⟩ | ⟨he, hm⟩
 refine Tr.regOne mixed 5 (by kernel_rfl) (ChOne.op rfl rfl (by decide) (kc0 (w_kinds) rfl) (ChOne.op rfl rfl (by decide) (kfa rfl fo29_1 rfl rfl) (ChOne.op rfl rfl (by decide) (kl1 rfl one3 rfl) (ChOne.op rfl rfl (by decide) (ok_index1 rfl underlying161 one160 sz160 (vl rfl) (vl rfl) (by omega) (by omega) hkp) (ChOne.op rfl rfl (by decide) (ok_move rfl (vl rfl)) ?_)))))
 refine ChOne.turn _ rfl (by decide) (turn_callv _ rfl rfl (vl rfl) (hm _ _ _) ⟨ke rfl, trivial⟩ ((perm_at (j := 0) rfl).trans (List.Perm.cons _ ((perm_at (j := 0) rfl).trans (List.Perm.cons _ ((perm_at (j := 0) rfl).trans (List.Perm.cons _ (List.Perm.refl _)))))))) ?_
 refine a2 ?_
 refine wk6 4 5 7 8 9 45 rfl ?_
 refine Tr.cn rfl ?_ ?_ <;> intro h5 q5
 have hX : doneX e2 b err = (zeroEp, zeroChg, err) := if_pos he
 refine ap ?_
 refine Tr.ret (Fin.then_ret (Fin.retX3 rfl (RVal.cell 1 rfl rfl agg32 sz32 rfl (Lr)) (RVal.cell 0 rfl rfl agg29 sz29 rfl (Lr)) (RVal.tmp rfl (Lr)) ?_))
 refine tup_le ⟨?_, ?_, ?_, trivial⟩
 · rw [hX]; exact agg_le ⟨Lr, Lr, Lr, nil_slice 1, Lr, nil_slice 4, nil_slice 1, nil_slice 1, Lr, trivial⟩
 · rw [hX]; exact agg_le ⟨Lr, Lr, Lr, Lr, Lr, Lr, Lr, nil_slice 15, trivial⟩
 · exact int_eq (by rw [hX])
 exfalso; have := q5; omega
 refine Tr.regOne mixed 5 (by kernel_rfl) (ChOne.op rfl rfl (by decide) (kc0 (w_kinds) rfl) (ChOne.op rfl rfl (by decide) (kfa rfl fo29_1 rfl rfl) (ChOne.op rfl rfl (by decide) (kl1 rfl one3 rfl) (ChOne.op rfl rfl (by decide) (ok_index1 rfl underlying161 one160 sz160 (vl rfl) (vl rfl) (by omega) (by omega) hkp) (ChOne.op rfl rfl (by decide) (ok_move rfl (vl rfl)) ?_)))))
 refine ChOne.turn _ rfl (by decide) (turn_callv _ rfl rfl (vl rfl) (hm _ _ _) ⟨ke rfl, trivial⟩ ((perm_at (j := 0) rfl).trans (List.Perm.cons _ ((perm_at (j := 0) rfl).trans (List.Perm.cons _ ((perm_at (j := 0) rfl).trans (List.Perm.cons _ (List.Perm.refl _)))))))) ?_
 refine a2 ?_
 refine wk6 4 5 7 8 9 45 rfl ?_
 refine Tr.cn rfl ?_ ?_ <;> intro h6 q6
 exact absurd h6 (by decide)
 refine a2 ?_
 refine co rfl (kc1 (w_ECheck (e := e2) hf2) rfl rfl) ?_
 refine an ?_ ?_ <;> intro h7 q7
 have hce2 : ¬ eptB e2 = true := by intro h_; rw [if_pos h_] at h7; exact absurd h7 (by decide)
 have hX : doneX e2 b err = (zeroEp, zeroChg, 18) := (if_neg (fun h_ => h_ he)).trans (if_neg hce2)
 refine ap ?_
 refine Tr.ret (Fin.then_ret (Fin.retX3 rfl (RVal.cell 3 rfl rfl agg32 sz32 rfl (Lr)) (RVal.cell 2 rfl rfl agg29 sz29 rfl (Lr)) (RVal.tmp rfl (Lr)) ?_))
 refine tup_le ⟨?_, ?_, ?_, trivial⟩
 · rw [hX]; exact agg_le ⟨Lr, Lr, Lr, nil_slice 1, Lr, nil_slice 4, nil_slice 1, nil_slice 1, Lr, trivial⟩
 · rw [hX]; exact agg_le ⟨Lr, Lr, Lr, Lr, Lr, Lr, Lr, nil_slice 15, trivial⟩
 · exact int_eq (by rw [hX])
 have hce2 : eptB e2 = true := Decidable.byContradiction fun h_ => by rw [if_neg h_] at h7; exact absurd h7 (by decide)
 have hX : doneX e2 b err = (e2, b, 0) := (if_neg (fun h_ => h_ he)).trans (if_pos hce2)
 refine ac ?_
 refine Tr.seq (Tr.rx ?_)
 refine ay ?_
 refine xo rfl (fun _ => kc1 (w_CopyC (c := b) hbk) rfl rfl) ?_
 refine ay ?_
 refine Cx.nil ⟨by kernel_rfl, ?_⟩
 refine FinX.done al4 (Fin.go (wk3 4 5 6 rfl (Tr.ret (Fin.retX3 rfl (RVal.cell 3 rfl rfl agg32 sz32 rfl (Lr)) (RVal.cell 2 rfl rfl agg29 sz29 rfl (Lr)) (RVal.tmp rfl (Lr)) ?_))))
 refine tup_le ⟨?_, ?_, ?_, trivial⟩
 · rw [hX]; exact Lr
 · rw [hX]; exact Lr
 · exact int_eq (by rw [hX])
theorem w_doneXh {e e2 : Ept} {c b : Chg} {fk : Nat} {err : Int} (hf : e.fits) (hsm : e.small) (hce : eptB e = true) (hk : 1 ≤ c.kind ∧ c.kind ≤ 12) (hlean : leanB c = true) (hkp : kindsP[c.kind.toNat]? = some (fn (.func fk) [])) (hbk : b.idn.small) (hf2 : e2.fits) (hm : (err ≠ 0 ∧ ∀ (wb ob : Nat) (v : Value), FunD prog fk [ptr wb 0] [resW wb ob c (back0 c), resO ob e (ints e.suites) (idns e.ids) (ints e.anchors) (is v), oweRes 3 1 (e.hashes.map fun n => [int n]) v] (int err) []) ∨ (err = 0 ∧ ∀ (wb ob : Nat) (v : Value), FunD prog fk [ptr wb 0] [resW wb ob c (back0 c), resO ob e (ints e.suites) (idns e.ids) (ints e.anchors) (is v), oweRes 3 1 (e.hashes.map fun n => [int n]) v] (int 0) [resW wb ob c b, cellsRes true ob 32 (rowEp e2)])) : Fun prog 74 [agg (rowEp e), agg (rowChg c)] (tup [agg (rowEp (doneX e2 b err).1), agg (rowChg (doneX e2 b err).2.1), int (doneX e2 b err).2.2]) := by
 refine fo func74 rfl ⟨rfl, rfl⟩ fun M0 w0 => (Tr.seq (Tr.regT (tp rfl (ok_box rfl (Va rfl)) (tp rfl (ok_box rfl (Va rfl)) ?_))))
 refine Tl rfl rfl rfl rfl z32 zo32 (fun b1 => ?_)
 refine Tl rfl rfl rfl rfl z29 zo29 (fun b2 => ?_)
 refine ap ?_
 refine ac ?_
 refine co rfl (kc1 (w_ECheck hf) rfl rfl) ?_
 refine an ?_ ?_ <;> intro h1 q1
 exfalso; rw [if_pos hce] at h1; exact absurd h1 (by decide)
 refine ac ?_
 refine ag ?_ ?_ <;> intro h2 q2
 exfalso; have := q2; omega
 refine ag ?_ ?_ <;> intro h3 q3
 exfalso; have := q3; omega
 refine cy h3 rfl (ok_loadA rfl agg29 sz29 (vl rfl) rfl rfl) ?_
 refine cy h3 rfl (kc1 (w_lean (c := c)) rfl rfl) ?_
 refine ac ?_
 refine wk5 2 3 4 5 27 rfl ?_
 refine Tr.cn rfl ?_ ?_ <;> intro h4 q4
 rw [hlean] at h4; exact absurd h4 (by decide)
 refine ac ?_
 refine ap ?_
 refine TO.callV rfl rfl (by decide) rfl (w_CopyEh hsm) ⟨ke rfl, trivial⟩ (fun v1 => ?_)
 refine Tl rfl rfl rfl rfl z32 zo32 (fun b3 => ?_)
 refine ap ?_
 refine ap ?_
 refine TO.boxm rfl rfl (by decide) rfl (Va rfl) (fun b4 => ?_)
 refine ap ?_
 refine wk5 3 4 5 7 8 rfl (Tr.seq (Tr.seq (Tr.leC 0 (ptr b3 0 :: rowWt c (back0 c)) rfl ⟨Lr, Lr, Lr, Lr, Lr, Lr, Lr, Lr, Lr, Lr, Lr, Lr, Lr, Lr, Lr, Lr, nil_slice 15, trivial⟩ ?_)))
 rcases hm with ⟨he, hm⟩ | ⟨he, hm⟩
 refine Tr.regOne mixed 5 (by kernel_rfl) (ChOne.op rfl rfl (by decide) (kc0 (w_kinds) rfl) (ChOne.op rfl rfl (by decide) (kfa rfl fo29_1 rfl rfl) (ChOne.op rfl rfl (by decide) (kl1 rfl one3 rfl) (ChOne.op rfl rfl (by decide) (ok_index1 rfl underlying161 one160 sz160 (vl rfl) (vl rfl) (by omega) (by omega) hkp) (ChOne.op rfl rfl (by decide) (ok_move rfl (vl rfl)) ?_)))))
 refine ChOne.turn _ rfl (by decide) (turn_callv _ rfl rfl (vl rfl) (hm _ _ _) ⟨ke rfl, trivial⟩ ((perm_at (j := 0) rfl).trans (List.Perm.cons _ ((perm_at (j := 0) rfl).trans (List.Perm.cons _ ((perm_at (j := 0) rfl).trans (List.Perm.cons _ (List.Perm.refl _)))))))) ?_
 refine a2 ?_
 refine wk6 4 5 7 8 9 45 rfl ?_
 refine Tr.cn rfl ?_ ?_ <;> intro h5 q5
 have hX : doneX e2 b err = (zeroEp, zeroChg, err) := if_pos he
 refine ap ?_
 refine Tr.ret (Fin.then_ret (Fin.retX3 rfl (RVal.cell 1 rfl rfl agg32 sz32 rfl (Lr)) (RVal.cell 0 rfl rfl agg29 sz29 rfl (Lr)) (RVal.tmp rfl (Lr)) ?_))
 refine tup_le ⟨?_, ?_, ?_, trivial⟩
 · rw [hX]; exact agg_le ⟨Lr, Lr, Lr, nil_slice 1, Lr, nil_slice 4, nil_slice 1, nil_slice 1, Lr, trivial⟩
 · rw [hX]; exact agg_le ⟨Lr, Lr, Lr, Lr, Lr, Lr, Lr, nil_slice 15, trivial⟩
 · exact int_eq (by rw [hX])
 exfalso; have := q5; omega
 refine Tr.regOne mixed 5 (by kernel_rfl) (ChOne.op rfl rfl (by decide) (kc0 (w_kinds) rfl) (ChOne.op rfl rfl (by decide) (kfa rfl fo29_1 rfl rfl) (ChOne.op rfl rfl (by decide) (kl1 rfl one3 rfl) (ChOne.op rfl rfl (by decide) (ok_index1 rfl underlying161 one160 sz160 (vl rfl) (vl rfl) (by omega) (by omega) hkp) (ChOne.op rfl rfl (by decide) (ok_move rfl (vl rfl)) ?_)))))
 refine ChOne.turn _ rfl (by decide) (turn_callv _ rfl rfl (vl rfl) (hm _ _ _) ⟨ke rfl, trivial⟩ ((perm_at (j := 0) rfl).trans (List.Perm.cons _ ((perm_at (j := 0) rfl).trans (List.Perm.cons _ ((perm_at (j := 0) rfl).trans (List.Perm.cons _ (List.Perm.refl _)))))))) ?_
 refine a2 ?_
 refine wk6 4 5 7 8 9 45 rfl ?_
 refine Tr.cn rfl ?_ ?_ <;> intro h6 q6
 exact absurd h6 (by decide)
 refine a2 ?_
 refine co rfl (kc1 (w_ECheck (e := e2) hf2) rfl rfl) ?_
 refine an ?_ ?_ <;> intro h7 q7
 have hce2 : ¬ eptB e2 = true := by intro h_; rw [if_pos h_] at h7; exact absurd h7 (by decide)
 have hX : doneX e2 b err = (zeroEp, zeroChg, 18) := (if_neg (fun h_ => h_ he)).trans (if_neg hce2)
 refine ap ?_
 refine Tr.ret (Fin.then_ret (Fin.retX3 rfl (RVal.cell 3 rfl rfl agg32 sz32 rfl (Lr)) (RVal.cell 2 rfl rfl agg29 sz29 rfl (Lr)) (RVal.tmp rfl (Lr)) ?_))
 refine tup_le ⟨?_, ?_, ?_, trivial⟩
 · rw [hX]; exact agg_le ⟨Lr, Lr, Lr, nil_slice 1, Lr, nil_slice 4, nil_slice 1, nil_slice 1, Lr, trivial⟩
 · rw [hX]; exact agg_le ⟨Lr, Lr, Lr, Lr, Lr, Lr, Lr, nil_slice 15, trivial⟩
 · exact int_eq (by rw [hX])
 have hce2 : eptB e2 = true := Decidable.byContradiction fun h_ => by rw [if_neg h_] at h7; exact absurd h7 (by decide)
 have hX : doneX e2 b err = (e2, b, 0) := (if_neg (fun h_ => h_ he)).trans (if_pos hce2)
 refine ac ?_
 refine Tr.seq (Tr.rx ?_)
 refine ay ?_
 refine xo rfl (fun _ => kc1 (w_CopyC (c := b) hbk) rfl rfl) ?_
 refine ay ?_
 refine Cx.nil ⟨by kernel_rfl, ?_⟩
 refine FinX.done al4 (Fin.go (wk3 4 5 6 rfl (Tr.ret (Fin.retX3 rfl (RVal.cell 3 rfl rfl agg32 sz32 rfl (Lr)) (RVal.cell 2 rfl rfl agg29 sz29 rfl (Lr)) (RVal.tmp rfl (Lr)) ?_))))
 refine tup_le ⟨?_, ?_, ?_, trivial⟩
 · rw [hX]; exact Lr
 · rw [hX]; exact Lr
 · exact int_eq (by rw [hX])
theorem w_doneXz {e e2 : Ept} {c b : Chg} {fk : Nat} {err : Int} (hf : e.fits) (hsm : e.small) (hce : eptB e = true) (hk : 1 ≤ c.kind ∧ c.kind ≤ 12) (hlean : leanB c = true) (hkp : kindsP[c.kind.toNat]? = some (fn (.func fk) [])) (hbk : b.idn.small) (hf2 : e2.fits) (hm : (err ≠ 0 ∧ ∀ (wb ob : Nat), FunD prog fk [ptr wb 0] [resW wb ob c (back0 c), resO ob e (ints e.suites) (idns e.ids) (ints e.anchors) (ints e.hashes)] (int err) []) ∨ (err = 0 ∧ ∀ (wb ob : Nat), FunD prog fk [ptr wb 0] [resW wb ob c (back0 c), resO ob e (ints e.suites) (idns e.ids) (ints e.anchors) (ints e.hashes)] (int 0) [resW wb ob c b, cellsRes true ob 32 (rowEp e2)])) : Fun prog 74 [agg (rowEp e), agg (rowChg c)] (tup [agg (rowEp (doneX e2 b err).1), agg (rowChg (doneX e2 b err).2.1), int (doneX e2 b err).2.2]) := by
 refine fo func74 rfl ⟨rfl, rfl⟩ fun M0 w0 => (Tr.seq (Tr.regT (tp rfl (ok_box rfl (Va rfl)) (tp rfl (ok_box rfl (Va rfl)) ?_))))
 refine Tl rfl rfl rfl rfl z32 zo32 (fun b1 => ?_)
 refine Tl rfl rfl rfl rfl z29 zo29 (fun b2 => ?_)
 refine ap ?_
 refine ac ?_
 refine co rfl (kc1 (w_ECheck hf) rfl rfl) ?_
 refine an ?_ ?_ <;> intro h1 q1
 exfalso; rw [if_pos hce] at h1; exact absurd h1 (by decide)
 refine ac ?_
 refine ag ?_ ?_ <;> intro h2 q2
 exfalso; have := q2; omega
 refine ag ?_ ?_ <;> intro h3 q3
 exfalso; have := q3; omega
 refine cy h3 rfl (ok_loadA rfl agg29 sz29 (vl rfl) rfl rfl) ?_
 refine cy h3 rfl (kc1 (w_lean (c := c)) rfl rfl) ?_
 refine ac ?_
 refine wk5 2 3 4 5 27 rfl ?_
 refine Tr.cn rfl ?_ ?_ <;> intro h4 q4
 rw [hlean] at h4; exact absurd h4 (by decide)
 refine ac ?_
 refine ap ?_
 refine tp rfl (kc1 (w_CopyEz hsm) rfl rfl) ?_
 refine Tl rfl rfl rfl rfl z32 zo32 (fun b3 => ?_)
 refine ap ?_
 refine ap ?_
 refine TO.boxm rfl rfl (by decide) rfl (Va rfl) (fun b4 => ?_)
 refine ap ?_
 refine wk5 3 4 5 7 8 rfl (Tr.seq (Tr.seq (Tr.leC 0 (ptr b3 0 :: rowWt c (back0 c)) rfl ⟨Lr, Lr, Lr, Lr, Lr, Lr, Lr, Lr, Lr, Lr, Lr, Lr, Lr, Lr, Lr, Lr, nil_slice 15, trivial⟩ ?_)))
 rcases hm with ⟨he, hm⟩ | ⟨he, hm⟩
 refine Tr.regOne mixed 5 (by kernel_rfl) (ChOne.op rfl rfl (by decide) (kc0 (w_kinds) rfl) (ChOne.op rfl rfl (by decide) (kfa rfl fo29_1 rfl rfl) (ChOne.op rfl rfl (by decide) (kl1 rfl one3 rfl) (ChOne.op rfl rfl (by decide) (ok_index1 rfl underlying161 one160 sz160 (vl rfl) (vl rfl) (by omega) (by omega) hkp) (ChOne.op rfl rfl (by decide) (ok_move rfl (vl rfl)) ?_)))))
 refine ChOne.turn _ rfl (by decide) (turn_callv _ rfl rfl (vl rfl) (hm _ _) ⟨ke rfl, trivial⟩ ((perm_at (j := 0) rfl).trans (List.Perm.cons _ ((perm_at (j := 0) rfl).trans (List.Perm.cons _ (List.Perm.refl _)))))) ?_
 refine a2 ?_
 refine wk6 4 5 7 8 9 45 rfl ?_
 refine Tr.cn rfl ?_ ?_ <;> intro h5 q5
 have hX : doneX e2 b err = (zeroEp, zeroChg, err) := if_pos he
 refine ap ?_
 refine Tr.ret (Fin.then_ret (Fin.retX3 rfl (RVal.cell 1 rfl rfl agg32 sz32 rfl (Lr)) (RVal.cell 0 rfl rfl agg29 sz29 rfl (Lr)) (RVal.tmp rfl (Lr)) ?_))
 refine tup_le ⟨?_, ?_, ?_, trivial⟩
 · rw [hX]; exact agg_le ⟨Lr, Lr, Lr, nil_slice 1, Lr, nil_slice 4, nil_slice 1, nil_slice 1, Lr, trivial⟩
 · rw [hX]; exact agg_le ⟨Lr, Lr, Lr, Lr, Lr, Lr, Lr, nil_slice 15, trivial⟩
 · exact int_eq (by rw [hX])
 exfalso; have := q5; omega
 refine Tr.regOne mixed 5 (by kernel_rfl) (ChOne.op rfl rfl (by decide) (kc0 (w_kinds) rfl) (ChOne.op rfl rfl (by decide) (kfa rfl fo29_1 rfl rfl) (ChOne.op rfl rfl (by decide) (kl1 rfl one3 rfl) (ChOne.op rfl rfl (by decide) (ok_index1 rfl underlying161 one160 sz160 (vl rfl) (vl rfl) (by omega) (by omega) hkp) (ChOne.op rfl rfl (by decide) (ok_move rfl (vl rfl)) ?_)))))
 refine ChOne.turn _ rfl (by decide) (turn_callv _ rfl rfl (vl rfl) (hm _ _) ⟨ke rfl, trivial⟩ ((perm_at (j := 0) rfl).trans (List.Perm.cons _ ((perm_at (j := 0) rfl).trans (List.Perm.cons _ (List.Perm.refl _)))))) ?_
 refine a2 ?_
 refine wk6 4 5 7 8 9 45 rfl ?_
 refine Tr.cn rfl ?_ ?_ <;> intro h6 q6
 exact absurd h6 (by decide)
 refine a2 ?_
 refine co rfl (kc1 (w_ECheck (e := e2) hf2) rfl rfl) ?_
 refine an ?_ ?_ <;> intro h7 q7
 have hce2 : ¬ eptB e2 = true := by intro h_; rw [if_pos h_] at h7; exact absurd h7 (by decide)
 have hX : doneX e2 b err = (zeroEp, zeroChg, 18) := (if_neg (fun h_ => h_ he)).trans (if_neg hce2)
 refine ap ?_
 refine Tr.ret (Fin.then_ret (Fin.retX3 rfl (RVal.cell 3 rfl rfl agg32 sz32 rfl (Lr)) (RVal.cell 2 rfl rfl agg29 sz29 rfl (Lr)) (RVal.tmp rfl (Lr)) ?_))
 refine tup_le ⟨?_, ?_, ?_, trivial⟩
 · rw [hX]; exact agg_le ⟨Lr, Lr, Lr, nil_slice 1, Lr, nil_slice 4, nil_slice 1, nil_slice 1, Lr, trivial⟩
 · rw [hX]; exact agg_le ⟨Lr, Lr, Lr, Lr, Lr, Lr, Lr, nil_slice 15, trivial⟩
 · exact int_eq (by rw [hX])
 have hce2 : eptB e2 = true := Decidable.byContradiction fun h_ => by rw [if_neg h_] at h7; exact absurd h7 (by decide)
 have hX : doneX e2 b err = (e2, b, 0) := (if_neg (fun h_ => h_ he)).trans (if_pos hce2)
 refine ac ?_
 refine Tr.seq (Tr.rx ?_)
 refine ay ?_
 refine xo rfl (fun _ => kc1 (w_CopyC (c := b) hbk) rfl rfl) ?_
 refine ay ?_
 refine Cx.nil ⟨by kernel_rfl, ?_⟩
 refine FinX.done al4 (Fin.go (wk3 4 5 6 rfl (Tr.ret (Fin.retX3 rfl (RVal.cell 3 rfl rfl agg32 sz32 rfl (Lr)) (RVal.cell 2 rfl rfl agg29 sz29 rfl (Lr)) (RVal.tmp rfl (Lr)) ?_))))
 refine tup_le ⟨?_, ?_, ?_, trivial⟩
 · rw [hX]; exact Lr
 · rw [hX]; exact Lr
 · exact int_eq (by rw [hX])
theorem w_done0 {e : Ept} {c : Chg} (hf : e.fits) (hce : eptB e = false) : Fun prog 74 [agg (rowEp e), agg (rowChg c)] (tup [agg (rowEp zeroEp), agg (rowChg zeroChg), int 19]) := by
 refine fo func74 rfl ⟨rfl, rfl⟩ fun M0 w0 => (Tr.seq (Tr.regT (tp rfl (ok_box rfl (Va rfl)) (tp rfl (ok_box rfl (Va rfl)) ?_))))
 refine Tl rfl rfl rfl rfl z32 zo32 (fun b1 => ?_)
 refine Tl rfl rfl rfl rfl z29 zo29 (fun b2 => ?_)
 refine ap ?_
 refine ac ?_
 refine co rfl (kc1 (w_ECheck hf) rfl rfl) ?_
 refine an ?_ ?_ <;> intro h1 q1
 refine ap ?_
 refine Tr.ret (Fin.then_ret (Fin.retX3 rfl (RVal.cell 1 rfl rfl agg32 sz32 rfl (Lr)) (RVal.cell 0 rfl rfl agg29 sz29 rfl (Lr)) (RVal.tmp rfl (Lr)) ?_))
 refine tup_le ⟨?_, ?_, ?_, trivial⟩
 · exact agg_le ⟨Lr, Lr, Lr, nil_slice 1, Lr, nil_slice 4, nil_slice 1, nil_slice 1, Lr, trivial⟩
 · exact agg_le ⟨Lr, Lr, Lr, Lr, Lr, Lr, Lr, nil_slice 15, trivial⟩
 · exact Lr
 exfalso; rw [if_neg (by rw [hce]; decide)] at h1; exact absurd h1 (by decide)
theorem w_done1 {e : Ept} {c : Chg} (hf : e.fits) (hce : eptB e = true) (hk : ¬ ((1 ≤ c.kind ∧ c.kind ≤ 12) ∧ leanB c = true)) : Fun prog 74 [agg (rowEp e), agg (rowChg c)] (tup [agg (rowEp zeroEp), agg (rowChg zeroChg), int 40]) := by
 refine fo func74 rfl ⟨rfl, rfl⟩ fun M0 w0 => (Tr.seq (Tr.regT (tp rfl (ok_box rfl (Va rfl)) (tp rfl (ok_box rfl (Va rfl)) ?_))))
 refine Tl rfl rfl rfl rfl z32 zo32 (fun b1 => ?_)
 refine Tl rfl rfl rfl rfl z29 zo29 (fun b2 => ?_)
 refine ap ?_
 refine ac ?_
 refine co rfl (kc1 (w_ECheck hf) rfl rfl) ?_
 refine an ?_ ?_ <;> intro h1 q1
 exfalso; rw [if_pos hce] at h1; exact absurd h1 (by decide)
 refine ac ?_
 refine ag ?_ ?_ <;> intro h2 q2
 have hq18 := q2
 refine ac ?_
 refine wk5 2 3 4 5 27 rfl (Tr.cond rfl (fun _ => ?_) (fun h => nomatch h))
 refine Tr.seq (Tr.regT (tp rfl (ok_build (rows := []) rfl bl32 zo32 trivial rfl) (tp rfl (ok_build (rows := []) rfl bl29 zo29 trivial rfl) (TO.store_all 1 rfl rfl rfl (vl rfl) (Va rfl) rfl sz32 rfl rfl (TO.store_all 0 rfl rfl rfl (vl rfl) (Va rfl) rfl sz29 rfl rfl (tm rfl (TO.nil (Fin.go (Tr.ret (Fin.then_ret (Fin.retX3 rfl (RVal.cell 1 rfl rfl agg32 sz32 rfl (Lr)) (RVal.cell 0 rfl rfl agg29 sz29 rfl (Lr)) (RVal.tmp rfl (Lr)) ?_)))))))))))
 refine tup_le ⟨?_, ?_, ?_, trivial⟩
 · exact agg_le ⟨Lr, Lr, Lr, nil_slice 1, Lr, nil_slice 4, nil_slice 1, nil_slice 1, Lr, trivial⟩
 · exact agg_le ⟨Lr, Lr, Lr, Lr, Lr, Lr, Lr, nil_slice 15, trivial⟩
 · exact Lr
 refine ag ?_ ?_ <;> intro h3 q3
 have hq23 := q3
 refine ac ?_
 refine wk5 2 3 4 5 27 rfl (Tr.cond rfl (fun _ => ?_) (fun h => nomatch h))
 refine Tr.seq (Tr.regT (tp rfl (ok_build (rows := []) rfl bl32 zo32 trivial rfl) (tp rfl (ok_build (rows := []) rfl bl29 zo29 trivial rfl) (TO.store_all 1 rfl rfl rfl (vl rfl) (Va rfl) rfl sz32 rfl rfl (TO.store_all 0 rfl rfl rfl (vl rfl) (Va rfl) rfl sz29 rfl rfl (tm rfl (TO.nil (Fin.go (Tr.ret (Fin.then_ret (Fin.retX3 rfl (RVal.cell 1 rfl rfl agg32 sz32 rfl (Lr)) (RVal.cell 0 rfl rfl agg29 sz29 rfl (Lr)) (RVal.tmp rfl (Lr)) ?_)))))))))))
 refine tup_le ⟨?_, ?_, ?_, trivial⟩
 · exact agg_le ⟨Lr, Lr, Lr, nil_slice 1, Lr, nil_slice 4, nil_slice 1, nil_slice 1, Lr, trivial⟩
 · exact agg_le ⟨Lr, Lr, Lr, Lr, Lr, Lr, Lr, nil_slice 15, trivial⟩
 · exact Lr
 have hq23 := q3
 refine cy h3 rfl (ok_loadA rfl agg29 sz29 (vl rfl) rfl rfl) ?_
 refine cy h3 rfl (kc1 (w_lean (c := c)) rfl rfl) ?_
 refine ac ?_
 refine wk5 2 3 4 5 27 rfl ?_
 refine Tr.cn rfl ?_ ?_ <;> intro h4 q4
 refine ap ?_
 refine Tr.ret (Fin.then_ret (Fin.retX3 rfl (RVal.cell 1 rfl rfl agg32 sz32 rfl (Lr)) (RVal.cell 0 rfl rfl agg29 sz29 rfl (Lr)) (RVal.tmp rfl (Lr)) ?_))
 refine tup_le ⟨?_, ?_, ?_, trivial⟩
 · exact agg_le ⟨Lr, Lr, Lr, nil_slice 1, Lr, nil_slice 4, nil_slice 1, nil_slice 1, Lr, trivial⟩
 · exact agg_le ⟨Lr, Lr, Lr, Lr, Lr, Lr, Lr, nil_slice 15, trivial⟩
 · exact Lr
 exfalso; apply hk; simp_all
abbrev sIdx (e : Ept) (c : Chg) : Int := idx (fun y => c.number == y) e.suites
/-- What the method of a kind answers: an error, or the endpoint and what leads back. -/
def stepR (e : Ept) (c : Chg) : Except Int (Ept × Chg) :=
 if c.kind = 1 then
  if ¬ (0 ≤ c.at_ ∧ c.at_ ≤ (e.suites.length : Nat)) then .error 2
  else if (e.suites.any fun y => c.number == y) = true then .error 41
  else .ok ({ e with suites := e.suites.take c.at_.toNat ++ [c.number] ++ e.suites.drop c.at_.toNat }, ⟨c.endpoint, 2, c.number, 0, zeroId⟩)
 else if c.kind = 2 then
  if sIdx e c < 0 then .error 41 else .ok ({ e with suites := e.suites.eraseIdx (sIdx e c).toNat }, ⟨c.endpoint, 1, c.number, sIdx e c, zeroId⟩)
 else if c.kind = 3 then
  if e.most = c.number then .error 41 else .ok ({ e with most := c.number }, ⟨c.endpoint, c.kind, e.most, 0, zeroId⟩)
 else if c.kind = 4 then
  if e.least = c.number then .error 41 else .ok ({ e with least := c.number }, ⟨c.endpoint, c.kind, e.least, 0, zeroId⟩)
 else if c.kind = 5 then
  if ¬ (0 ≤ c.at_ ∧ c.at_ ≤ (e.ids.length : Nat)) then .error 2
  else if 0 ≤ keyIdx c.idn.keyId e.ids then .error 41
  else .ok ({ e with ids := e.ids.take c.at_.toNat ++ [c.idn] ++ e.ids.drop c.at_.toNat }, ⟨c.endpoint, 6, c.idn.keyId, 0, zeroId⟩)
 else if c.kind = 6 then
  match e.ids[(keyIdx c.number e.ids).toNat]? with
  | none => .error 41
  | some x =>
   if keyIdx c.number e.ids < 0 then .error 41
   else if ((e.ids.drop (keyIdx c.number e.ids + 1).toNat).any fun x => x.keyId == c.number) = true then .error 5
   else .ok ({ e with ids := e.ids.eraseIdx (keyIdx c.number e.ids).toNat }, ⟨c.endpoint, 5, 0, keyIdx c.number e.ids, x⟩)
 else if c.kind = 7 then
  if hasX e.anchors c.number = true then .error 41 else .ok ({ e with anchors := insX e.anchors c.number }, ⟨c.endpoint, 8, c.number, 0, zeroId⟩)
 else if c.kind = 8 then
  if hasX e.anchors c.number = true then .ok ({ e with anchors := e.anchors.eraseIdx (posI e.anchors c.number) }, ⟨c.endpoint, 7, c.number, 0, zeroId⟩) else .error 41
 else if c.kind = 9 then
  if hasX e.hashes c.number = true then .error 41 else .ok ({ e with hashes := insX e.hashes c.number }, ⟨c.endpoint, 10, c.number, 0, zeroId⟩)
 else if c.kind = 10 then
  if hasX e.hashes c.number = true then .ok ({ e with hashes := e.hashes.eraseIdx (posI e.hashes c.number) }, ⟨c.endpoint, 9, c.number, 0, zeroId⟩) else .error 41
 else if c.kind = 11 then
  if ¬ (0 ≤ c.number ∧ c.number ≤ 1) then .error 2
  else if bitI e.fall = c.number then .error 41 else .ok ({ e with fall := (c.number == 1) }, ⟨c.endpoint, c.kind, bitI e.fall, 0, zeroId⟩)
 else
  if ¬ (0 ≤ c.number ∧ c.number ≤ 1) then .error 2
  else if bitI e.own = c.number then .error 41 else .ok ({ e with own := (c.number == 1) }, ⟨c.endpoint, c.kind, bitI e.own, 0, zeroId⟩)
def okCh (c : Chg) : Prop := (1 ≤ c.kind ∧ c.kind ≤ 12) ∧ leanB c = true
instance (c : Chg) : Decidable (okCh c) := inferInstanceAs (Decidable (_ ∧ _))
def doneR (e : Ept) (c : Chg) : Ept × Chg × Int :=
 if eptB e = false then (zeroEp, zeroChg, 19)
 else if ¬ okCh c then (zeroEp, zeroChg, 40)
 else match stepR e c with
  | .error f => (zeroEp, zeroChg, f)
  | .ok (e2, b) => if eptB e2 = true then (e2, b, 0) else (zeroEp, zeroChg, 18)
theorem stepR_1 {e : Ept} {c : Chg} (h : c.kind = 1) : stepR e c =
  (
  if ¬ (0 ≤ c.at_ ∧ c.at_ ≤ (e.suites.length : Nat)) then .error 2
  else if (e.suites.any fun y => c.number == y) = true then .error 41
  else .ok ({ e with suites := e.suites.take c.at_.toNat ++ [c.number] ++ e.suites.drop c.at_.toNat }, ⟨c.endpoint, 2, c.number, 0, zeroId⟩)) := by
 unfold stepR; rw [if_pos h]
theorem stepR_2 {e : Ept} {c : Chg} (h : c.kind = 2) : stepR e c =
  (
  if sIdx e c < 0 then .error 41 else .ok ({ e with suites := e.suites.eraseIdx (sIdx e c).toNat }, ⟨c.endpoint, 1, c.number, sIdx e c, zeroId⟩)) := by
 unfold stepR; rw [if_neg (by rw [h]; decide)]; rw [if_pos h]
theorem stepR_3 {e : Ept} {c : Chg} (h : c.kind = 3) : stepR e c =
  (
  if e.most = c.number then .error 41 else .ok ({ e with most := c.number }, ⟨c.endpoint, c.kind, e.most, 0, zeroId⟩)) := by
 unfold stepR; rw [if_neg (by rw [h]; decide)]; rw [if_neg (by rw [h]; decide)]; rw [if_pos h]
theorem stepR_4 {e : Ept} {c : Chg} (h : c.kind = 4) : stepR e c =
  (
  if e.least = c.number then .error 41 else .ok ({ e with least := c.number }, ⟨c.endpoint, c.kind, e.least, 0, zeroId⟩)) := by
 unfold stepR; rw [if_neg (by rw [h]; decide)]; rw [if_neg (by rw [h]; decide)]; rw [if_neg (by rw [h]; decide)]; rw [if_pos h]
theorem stepR_5 {e : Ept} {c : Chg} (h : c.kind = 5) : stepR e c =
  (
  if ¬ (0 ≤ c.at_ ∧ c.at_ ≤ (e.ids.length : Nat)) then .error 2
  else if 0 ≤ keyIdx c.idn.keyId e.ids then .error 41
  else .ok ({ e with ids := e.ids.take c.at_.toNat ++ [c.idn] ++ e.ids.drop c.at_.toNat }, ⟨c.endpoint, 6, c.idn.keyId, 0, zeroId⟩)) := by
 unfold stepR; rw [if_neg (by rw [h]; decide)]; rw [if_neg (by rw [h]; decide)]; rw [if_neg (by rw [h]; decide)]; rw [if_neg (by rw [h]; decide)]; rw [if_pos h]
theorem stepR_6 {e : Ept} {c : Chg} (h : c.kind = 6) : stepR e c =
  (
  match e.ids[(keyIdx c.number e.ids).toNat]? with
  | none => .error 41
  | some x =>
   if keyIdx c.number e.ids < 0 then .error 41
   else if ((e.ids.drop (keyIdx c.number e.ids + 1).toNat).any fun x => x.keyId == c.number) = true then .error 5
   else .ok ({ e with ids := e.ids.eraseIdx (keyIdx c.number e.ids).toNat }, ⟨c.endpoint, 5, 0, keyIdx c.number e.ids, x⟩)) := by
 unfold stepR; rw [if_neg (by rw [h]; decide)]; rw [if_neg (by rw [h]; decide)]; rw [if_neg (by rw [h]; decide)]; rw [if_neg (by rw [h]; decide)]; rw [if_neg (by rw [h]; decide)]; rw [if_pos h]
theorem stepR_7 {e : Ept} {c : Chg} (h : c.kind = 7) : stepR e c =
  (
  if hasX e.anchors c.number = true then .error 41 else .ok ({ e with anchors := insX e.anchors c.number }, ⟨c.endpoint, 8, c.number, 0, zeroId⟩)) := by
 unfold stepR; rw [if_neg (by rw [h]; decide)]; rw [if_neg (by rw [h]; decide)]; rw [if_neg (by rw [h]; decide)]; rw [if_neg (by rw [h]; decide)]; rw [if_neg (by rw [h]; decide)]; rw [if_neg (by rw [h]; decide)]; rw [if_pos h]
theorem stepR_8 {e : Ept} {c : Chg} (h : c.kind = 8) : stepR e c =
  (
  if hasX e.anchors c.number = true then .ok ({ e with anchors := e.anchors.eraseIdx (posI e.anchors c.number) }, ⟨c.endpoint, 7, c.number, 0, zeroId⟩) else .error 41) := by
 unfold stepR; rw [if_neg (by rw [h]; decide)]; rw [if_neg (by rw [h]; decide)]; rw [if_neg (by rw [h]; decide)]; rw [if_neg (by rw [h]; decide)]; rw [if_neg (by rw [h]; decide)]; rw [if_neg (by rw [h]; decide)]; rw [if_neg (by rw [h]; decide)]; rw [if_pos h]
theorem stepR_9 {e : Ept} {c : Chg} (h : c.kind = 9) : stepR e c =
  (
  if hasX e.hashes c.number = true then .error 41 else .ok ({ e with hashes := insX e.hashes c.number }, ⟨c.endpoint, 10, c.number, 0, zeroId⟩)) := by
 unfold stepR; rw [if_neg (by rw [h]; decide)]; rw [if_neg (by rw [h]; decide)]; rw [if_neg (by rw [h]; decide)]; rw [if_neg (by rw [h]; decide)]; rw [if_neg (by rw [h]; decide)]; rw [if_neg (by rw [h]; decide)]; rw [if_neg (by rw [h]; decide)]; rw [if_neg (by rw [h]; decide)]; rw [if_pos h]
theorem stepR_10 {e : Ept} {c : Chg} (h : c.kind = 10) : stepR e c =
  (
  if hasX e.hashes c.number = true then .ok ({ e with hashes := e.hashes.eraseIdx (posI e.hashes c.number) }, ⟨c.endpoint, 9, c.number, 0, zeroId⟩) else .error 41) := by
 unfold stepR; rw [if_neg (by rw [h]; decide)]; rw [if_neg (by rw [h]; decide)]; rw [if_neg (by rw [h]; decide)]; rw [if_neg (by rw [h]; decide)]; rw [if_neg (by rw [h]; decide)]; rw [if_neg (by rw [h]; decide)]; rw [if_neg (by rw [h]; decide)]; rw [if_neg (by rw [h]; decide)]; rw [if_neg (by rw [h]; decide)]; rw [if_pos h]
theorem stepR_11 {e : Ept} {c : Chg} (h : c.kind = 11) : stepR e c =
  (
  if ¬ (0 ≤ c.number ∧ c.number ≤ 1) then .error 2
  else if bitI e.fall = c.number then .error 41 else .ok ({ e with fall := (c.number == 1) }, ⟨c.endpoint, c.kind, bitI e.fall, 0, zeroId⟩)) := by
 unfold stepR; rw [if_neg (by rw [h]; decide)]; rw [if_neg (by rw [h]; decide)]; rw [if_neg (by rw [h]; decide)]; rw [if_neg (by rw [h]; decide)]; rw [if_neg (by rw [h]; decide)]; rw [if_neg (by rw [h]; decide)]; rw [if_neg (by rw [h]; decide)]; rw [if_neg (by rw [h]; decide)]; rw [if_neg (by rw [h]; decide)]; rw [if_neg (by rw [h]; decide)]; rw [if_pos h]
theorem stepR_12 {e : Ept} {c : Chg} (h : c.kind = 12) : stepR e c =
  (
  if ¬ (0 ≤ c.number ∧ c.number ≤ 1) then .error 2
  else if bitI e.own = c.number then .error 41 else .ok ({ e with own := (c.number == 1) }, ⟨c.endpoint, c.kind, bitI e.own, 0, zeroId⟩)) := by
 unfold stepR; rw [if_neg (by rw [h]; decide)]; rw [if_neg (by rw [h]; decide)]; rw [if_neg (by rw [h]; decide)]; rw [if_neg (by rw [h]; decide)]; rw [if_neg (by rw [h]; decide)]; rw [if_neg (by rw [h]; decide)]; rw [if_neg (by rw [h]; decide)]; rw [if_neg (by rw [h]; decide)]; rw [if_neg (by rw [h]; decide)]; rw [if_neg (by rw [h]; decide)]; rw [if_neg (by rw [h]; decide)]
theorem doneR_err {e : Ept} {c : Chg} {f : Int} (h : eptB e = true) (hc : okCh c) (hs : stepR e c = .error f) : doneR e c = (zeroEp, zeroChg, f) := by
 unfold doneR; rw [if_neg (by rw [h]; decide), if_neg (fun h => h hc), hs]
theorem doneR_ok {e : Ept} {c : Chg} {e2 : Ept} {b : Chg} (h : eptB e = true) (hc : okCh c) (hs : stepR e c = .ok (e2, b)) (h2 : eptB e2 = true) : doneR e c = (e2, b, 0) := by
 unfold doneR; rw [if_neg (by rw [h]; decide), if_neg (fun h => h hc), hs]; exact if_pos h2
theorem doneR_v {e : Ept} {c : Chg} {e2 : Ept} {b : Chg} (h : eptB e = true) (hc : okCh c) (hs : stepR e c = .ok (e2, b)) (h2 : eptB e2 = false) : doneR e c = (zeroEp, zeroChg, 18) := by
 unfold doneR; rw [if_neg (by rw [h]; decide), if_neg (fun h => h hc), hs]; exact if_neg (by rw [h2]; decide)
abbrev tupR (r : Ept × Chg × Int) : Pr := tup [agg (rowEp r.1), agg (rowChg r.2.1), int r.2.2]
structure EptOk (e : Ept) : Prop where
 name : wordB e.name = true
 least : 1 ≤ e.least
 lm : e.least ≤ e.most
 most : e.most ≤ 4
 suites : suitesB e.suites = true
 idl : e.ids.length ≤ 4
 ancl : e.anchors.length ≤ 16
 anc : ascB e.anchors = true
 hash : ascB e.hashes = true
 ids : e.ids.all idB = true
 keys : e.anchors.all keyB = true
 hsh : e.hashes.all hashB = true
theorem eptB_iff {e : Ept} : eptB e = true ↔ EptOk e := by
 unfold eptB; simp only [Bool.and_eq_true, decide_eq_true_eq]
 exact ⟨fun ⟨⟨⟨⟨⟨⟨⟨⟨a, b⟩, c⟩, d⟩, f⟩, ⟨⟨⟨g, h⟩, i⟩, j⟩⟩, k⟩, l⟩, m⟩ => ⟨a, b, c, d, f, g, h, i, j, k, l, m⟩, fun ⟨a, b, c, d, f, g, h, i, j, k, l, m⟩ => ⟨⟨⟨⟨⟨⟨⟨⟨a, b⟩, c⟩, d⟩, f⟩, ⟨⟨⟨g, h⟩, i⟩, j⟩⟩, k⟩, l⟩, m⟩⟩


theorem dn_errn {e : Ept} {c : Chg} {fk : Nat} (hf : e.fits) (hsm : e.small) (hce : eptB e = true) (hc : okCh c) (hkp : kindsP[c.kind.toNat]? = some (fn (.func fk) [])) {f : Int} (hs : stepR e c = .error f) (he : f ≠ 0) (hm : ∀ (wb ob : Nat) (v : Value), FunD Tryz.prog fk [ptr wb 0] [resW wb ob c (back0 c), resO ob e (ints e.suites) (is v) (ints e.anchors) (ints e.hashes), oweRes 27 4 (e.ids.map rowId) v] (int f) []) : Fun Tryz.prog 74 [agg (rowEp e), agg (rowChg c)] (tupR (doneR e c)) := by
 have := w_doneXn (e2 := zeroEp) (b := zeroChg) hf hsm hce hc.1 hc.2 hkp ⟨by show 0 ≤ _; omega, fun x hx => by cases hx⟩ ⟨by show 0 ≤ _; omega, fun x hx => by cases hx⟩ (.inl ⟨he, hm⟩)
 rw [doneR_err hce hc hs]; rwa [show doneX zeroEp zeroChg f = (zeroEp, zeroChg, f) from if_pos he] at this
theorem dn_okn {e : Ept} {c : Chg} {fk : Nat} (hf : e.fits) (hsm : e.small) (hce : eptB e = true) (hc : okCh c) (hkp : kindsP[c.kind.toNat]? = some (fn (.func fk) [])) {e2 : Ept} {b : Chg} (hs : stepR e c = .ok (e2, b)) (hbk : b.idn.small) (hf2 : e2.fits) (hm : ∀ (wb ob : Nat) (v : Value), FunD Tryz.prog fk [ptr wb 0] [resW wb ob c (back0 c), resO ob e (ints e.suites) (is v) (ints e.anchors) (ints e.hashes), oweRes 27 4 (e.ids.map rowId) v] (int 0) [resW wb ob c b, cellsRes true ob 32 (rowEp e2)]) : Fun Tryz.prog 74 [agg (rowEp e), agg (rowChg c)] (tupR (doneR e c)) := by
 have := w_doneXn (err := 0) hf hsm hce hc.1 hc.2 hkp hbk hf2 (.inr ⟨rfl, hm⟩)
 cases h2 : eptB e2 with
 | true => rw [doneR_ok hce hc hs h2]; rwa [show doneX e2 b 0 = (e2, b, 0) from (if_neg (fun h_ => h_ rfl)).trans (if_pos h2)] at this
 | false => rw [doneR_v hce hc hs h2]; rwa [show doneX e2 b 0 = (zeroEp, zeroChg, 18) from (if_neg (fun h_ => h_ rfl)).trans (if_neg (by rw [h2]; decide))] at this


theorem dn_errs {e : Ept} {c : Chg} {fk : Nat} (hf : e.fits) (hsm : e.small) (hce : eptB e = true) (hc : okCh c) (hkp : kindsP[c.kind.toNat]? = some (fn (.func fk) [])) {f : Int} (hs : stepR e c = .error f) (he : f ≠ 0) (hm : ∀ (wb ob : Nat) (v : Value), FunD Tryz.prog fk [ptr wb 0] [resW wb ob c (back0 c), resO ob e (is v) (idns e.ids) (ints e.anchors) (ints e.hashes), oweRes 3 1 (e.suites.map fun n => [int n]) v] (int f) []) : Fun Tryz.prog 74 [agg (rowEp e), agg (rowChg c)] (tupR (doneR e c)) := by
 have := w_doneXs (e2 := zeroEp) (b := zeroChg) hf hsm hce hc.1 hc.2 hkp ⟨by show 0 ≤ _; omega, fun x hx => by cases hx⟩ ⟨by show 0 ≤ _; omega, fun x hx => by cases hx⟩ (.inl ⟨he, hm⟩)
 rw [doneR_err hce hc hs]; rwa [show doneX zeroEp zeroChg f = (zeroEp, zeroChg, f) from if_pos he] at this
theorem dn_oks {e : Ept} {c : Chg} {fk : Nat} (hf : e.fits) (hsm : e.small) (hce : eptB e = true) (hc : okCh c) (hkp : kindsP[c.kind.toNat]? = some (fn (.func fk) [])) {e2 : Ept} {b : Chg} (hs : stepR e c = .ok (e2, b)) (hbk : b.idn.small) (hf2 : e2.fits) (hm : ∀ (wb ob : Nat) (v : Value), FunD Tryz.prog fk [ptr wb 0] [resW wb ob c (back0 c), resO ob e (is v) (idns e.ids) (ints e.anchors) (ints e.hashes), oweRes 3 1 (e.suites.map fun n => [int n]) v] (int 0) [resW wb ob c b, cellsRes true ob 32 (rowEp e2)]) : Fun Tryz.prog 74 [agg (rowEp e), agg (rowChg c)] (tupR (doneR e c)) := by
 have := w_doneXs (err := 0) hf hsm hce hc.1 hc.2 hkp hbk hf2 (.inr ⟨rfl, hm⟩)
 cases h2 : eptB e2 with
 | true => rw [doneR_ok hce hc hs h2]; rwa [show doneX e2 b 0 = (e2, b, 0) from (if_neg (fun h_ => h_ rfl)).trans (if_pos h2)] at this
 | false => rw [doneR_v hce hc hs h2]; rwa [show doneX e2 b 0 = (zeroEp, zeroChg, 18) from (if_neg (fun h_ => h_ rfl)).trans (if_neg (by rw [h2]; decide))] at this


theorem dn_erra {e : Ept} {c : Chg} {fk : Nat} (hf : e.fits) (hsm : e.small) (hce : eptB e = true) (hc : okCh c) (hkp : kindsP[c.kind.toNat]? = some (fn (.func fk) [])) {f : Int} (hs : stepR e c = .error f) (he : f ≠ 0) (hm : ∀ (wb ob : Nat) (v : Value), FunD Tryz.prog fk [ptr wb 0] [resW wb ob c (back0 c), resO ob e (ints e.suites) (idns e.ids) (is v) (ints e.hashes), oweRes 3 1 (e.anchors.map fun n => [int n]) v] (int f) []) : Fun Tryz.prog 74 [agg (rowEp e), agg (rowChg c)] (tupR (doneR e c)) := by
 have := w_doneXa (e2 := zeroEp) (b := zeroChg) hf hsm hce hc.1 hc.2 hkp ⟨by show 0 ≤ _; omega, fun x hx => by cases hx⟩ ⟨by show 0 ≤ _; omega, fun x hx => by cases hx⟩ (.inl ⟨he, hm⟩)
 rw [doneR_err hce hc hs]; rwa [show doneX zeroEp zeroChg f = (zeroEp, zeroChg, f) from if_pos he] at this
theorem dn_oka {e : Ept} {c : Chg} {fk : Nat} (hf : e.fits) (hsm : e.small) (hce : eptB e = true) (hc : okCh c) (hkp : kindsP[c.kind.toNat]? = some (fn (.func fk) [])) {e2 : Ept} {b : Chg} (hs : stepR e c = .ok (e2, b)) (hbk : b.idn.small) (hf2 : e2.fits) (hm : ∀ (wb ob : Nat) (v : Value), FunD Tryz.prog fk [ptr wb 0] [resW wb ob c (back0 c), resO ob e (ints e.suites) (idns e.ids) (is v) (ints e.hashes), oweRes 3 1 (e.anchors.map fun n => [int n]) v] (int 0) [resW wb ob c b, cellsRes true ob 32 (rowEp e2)]) : Fun Tryz.prog 74 [agg (rowEp e), agg (rowChg c)] (tupR (doneR e c)) := by
 have := w_doneXa (err := 0) hf hsm hce hc.1 hc.2 hkp hbk hf2 (.inr ⟨rfl, hm⟩)
 cases h2 : eptB e2 with
 | true => rw [doneR_ok hce hc hs h2]; rwa [show doneX e2 b 0 = (e2, b, 0) from (if_neg (fun h_ => h_ rfl)).trans (if_pos h2)] at this
 | false => rw [doneR_v hce hc hs h2]; rwa [show doneX e2 b 0 = (zeroEp, zeroChg, 18) from (if_neg (fun h_ => h_ rfl)).trans (if_neg (by rw [h2]; decide))] at this


theorem dn_errh {e : Ept} {c : Chg} {fk : Nat} (hf : e.fits) (hsm : e.small) (hce : eptB e = true) (hc : okCh c) (hkp : kindsP[c.kind.toNat]? = some (fn (.func fk) [])) {f : Int} (hs : stepR e c = .error f) (he : f ≠ 0) (hm : ∀ (wb ob : Nat) (v : Value), FunD Tryz.prog fk [ptr wb 0] [resW wb ob c (back0 c), resO ob e (ints e.suites) (idns e.ids) (ints e.anchors) (is v), oweRes 3 1 (e.hashes.map fun n => [int n]) v] (int f) []) : Fun Tryz.prog 74 [agg (rowEp e), agg (rowChg c)] (tupR (doneR e c)) := by
 have := w_doneXh (e2 := zeroEp) (b := zeroChg) hf hsm hce hc.1 hc.2 hkp ⟨by show 0 ≤ _; omega, fun x hx => by cases hx⟩ ⟨by show 0 ≤ _; omega, fun x hx => by cases hx⟩ (.inl ⟨he, hm⟩)
 rw [doneR_err hce hc hs]; rwa [show doneX zeroEp zeroChg f = (zeroEp, zeroChg, f) from if_pos he] at this
theorem dn_okh {e : Ept} {c : Chg} {fk : Nat} (hf : e.fits) (hsm : e.small) (hce : eptB e = true) (hc : okCh c) (hkp : kindsP[c.kind.toNat]? = some (fn (.func fk) [])) {e2 : Ept} {b : Chg} (hs : stepR e c = .ok (e2, b)) (hbk : b.idn.small) (hf2 : e2.fits) (hm : ∀ (wb ob : Nat) (v : Value), FunD Tryz.prog fk [ptr wb 0] [resW wb ob c (back0 c), resO ob e (ints e.suites) (idns e.ids) (ints e.anchors) (is v), oweRes 3 1 (e.hashes.map fun n => [int n]) v] (int 0) [resW wb ob c b, cellsRes true ob 32 (rowEp e2)]) : Fun Tryz.prog 74 [agg (rowEp e), agg (rowChg c)] (tupR (doneR e c)) := by
 have := w_doneXh (err := 0) hf hsm hce hc.1 hc.2 hkp hbk hf2 (.inr ⟨rfl, hm⟩)
 cases h2 : eptB e2 with
 | true => rw [doneR_ok hce hc hs h2]; rwa [show doneX e2 b 0 = (e2, b, 0) from (if_neg (fun h_ => h_ rfl)).trans (if_pos h2)] at this
 | false => rw [doneR_v hce hc hs h2]; rwa [show doneX e2 b 0 = (zeroEp, zeroChg, 18) from (if_neg (fun h_ => h_ rfl)).trans (if_neg (by rw [h2]; decide))] at this


theorem dn_errz {e : Ept} {c : Chg} {fk : Nat} (hf : e.fits) (hsm : e.small) (hce : eptB e = true) (hc : okCh c) (hkp : kindsP[c.kind.toNat]? = some (fn (.func fk) [])) {f : Int} (hs : stepR e c = .error f) (he : f ≠ 0) (hm : ∀ (wb ob : Nat), FunD Tryz.prog fk [ptr wb 0] [resW wb ob c (back0 c), resO ob e (ints e.suites) (idns e.ids) (ints e.anchors) (ints e.hashes)] (int f) []) : Fun Tryz.prog 74 [agg (rowEp e), agg (rowChg c)] (tupR (doneR e c)) := by
 have := w_doneXz (e2 := zeroEp) (b := zeroChg) hf hsm hce hc.1 hc.2 hkp ⟨by show 0 ≤ _; omega, fun x hx => by cases hx⟩ ⟨by show 0 ≤ _; omega, fun x hx => by cases hx⟩ (.inl ⟨he, hm⟩)
 rw [doneR_err hce hc hs]; rwa [show doneX zeroEp zeroChg f = (zeroEp, zeroChg, f) from if_pos he] at this
theorem dn_okz {e : Ept} {c : Chg} {fk : Nat} (hf : e.fits) (hsm : e.small) (hce : eptB e = true) (hc : okCh c) (hkp : kindsP[c.kind.toNat]? = some (fn (.func fk) [])) {e2 : Ept} {b : Chg} (hs : stepR e c = .ok (e2, b)) (hbk : b.idn.small) (hf2 : e2.fits) (hm : ∀ (wb ob : Nat), FunD Tryz.prog fk [ptr wb 0] [resW wb ob c (back0 c), resO ob e (ints e.suites) (idns e.ids) (ints e.anchors) (ints e.hashes)] (int 0) [resW wb ob c b, cellsRes true ob 32 (rowEp e2)]) : Fun Tryz.prog 74 [agg (rowEp e), agg (rowChg c)] (tupR (doneR e c)) := by
 have := w_doneXz (err := 0) hf hsm hce hc.1 hc.2 hkp hbk hf2 (.inr ⟨rfl, hm⟩)
 cases h2 : eptB e2 with
 | true => rw [doneR_ok hce hc hs h2]; rwa [show doneX e2 b 0 = (e2, b, 0) from (if_neg (fun h_ => h_ rfl)).trans (if_pos h2)] at this
 | false => rw [doneR_v hce hc hs h2]; rwa [show doneX e2 b 0 = (zeroEp, zeroChg, 18) from (if_neg (fun h_ => h_ rfl)).trans (if_neg (by rw [h2]; decide))] at this


theorem id0_small : zeroId.small := ⟨by show 0 ≤ _; omega, fun c hc => by cases hc⟩
theorem ids_ins {l : List Idn} {x : Idn} {i : Nat} (h : ∀ y ∈ l, y.fits) (hx : x.fits) : ∀ y ∈ l.take i ++ [x] ++ l.drop i, y.fits := by
 intro y hy
 simp only [List.mem_append, List.mem_cons, List.not_mem_nil, or_false] at hy
 rcases hy with (hy | rfl) | hy
 · exact h y (List.mem_of_mem_take hy)
 · exact hx
 · exact h y (List.mem_of_mem_drop hy)
theorem ids_del {l : List Idn} {i : Nat} (h : ∀ y ∈ l, y.fits) : ∀ y ∈ l.eraseIdx i, y.fits := fun y hy => h y (List.mem_of_mem_eraseIdx hy)
theorem w_done {e : Ept} {c : Chg} (hf : e.fits) (hsm : e.small) (hcf : c.idn.fits) (hcs : c.idn.small) : Fun Tryz.prog 74 [agg (rowEp e), agg (rowChg c)] (tupR (doneR e c)) := by
 cases hce : eptB e with
 | false => rw [show doneR e c = (zeroEp, zeroChg, 19) from if_pos hce]; exact w_done0 hf hce
 | true =>
 by_cases hc : okCh c
 case neg => rw [show doneR e c = (zeroEp, zeroChg, 40) from (if_neg (by rw [hce]; decide)).trans (if_pos hc)]; exact w_done1 hf hce hc
 have ok := eptB_iff.1 hce
 have hk := hc.1
 have h0 : c.kind = 1 ∨ c.kind = 2 ∨ c.kind = 3 ∨ c.kind = 4 ∨ c.kind = 5 ∨ c.kind = 6 ∨ c.kind = 7 ∨ c.kind = 8 ∨ c.kind = 9 ∨ c.kind = 10 ∨ c.kind = 11 ∨ c.kind = 12 := by omega
 rcases h0 with h1 | h2 | h3 | h4 | h5 | h6 | h7 | h8 | h9 | h10 | h11 | h12
 ·
  -- kind 1
  by_cases hr : 0 ≤ c.at_ ∧ c.at_ ≤ (e.suites.length : Nat)
  by_cases h : (e.suites.any fun y => c.number == y) = true
  · exact dn_errs hf hsm hce hc (fk := 167) (by rw [h1]; rfl) (by unfold stepR; rw [if_pos h1]; rw [if_neg (fun h => h hr)]; exact if_pos h) (by decide) (fun wb ob v => w_addSuiteT (e := e) (c := c) (b := back0 c) hr hsm.suites h)
  · exact dn_oks hf hsm hce hc (fk := 167) (e2 := { e with suites := e.suites.take c.at_.toNat ++ [c.number] ++ e.suites.drop c.at_.toNat }) (b := ⟨c.endpoint, 2, c.number, 0, zeroId⟩) (by rw [h1]; rfl) (by unfold stepR; rw [if_pos h1]; rw [if_neg (fun h => h hr)]; exact if_neg h) id0_small ⟨hf.name, hf.ids⟩ (fun wb ob v => FunD.perm (w_addSuiteY (e := e) (c := c) (b := back0 c) hr hsm.suites (Bool.eq_false_iff.2 h)) (List.Perm.swap _ _ _))
  · exact dn_errs hf hsm hce hc (fk := 167) (by rw [h1]; rfl) (by unfold stepR; rw [if_pos h1]; exact if_pos hr) (by decide) (fun wb ob v => w_addSuiteR (e := e) (c := c) (b := back0 c) hr)
 ·
  -- kind 2
  by_cases h : sIdx e c < 0
  · exact dn_errs hf hsm hce hc (fk := 168) (by rw [h2]; rfl) (by unfold stepR; rw [if_neg (by rw [h2]; decide)]; rw [if_pos h2]; exact if_pos h) (by decide) (fun wb ob v => w_dropSuiteN (e := e) (c := c) (b := back0 c) h)
  · exact dn_oks hf hsm hce hc (fk := 168) (e2 := { e with suites := e.suites.eraseIdx (sIdx e c).toNat }) (b := ⟨c.endpoint, 1, c.number, sIdx e c, zeroId⟩) (by rw [h2]; rfl) (by unfold stepR; rw [if_neg (by rw [h2]; decide)]; rw [if_pos h2]; exact if_neg h) id0_small ⟨hf.name, hf.ids⟩ (fun wb ob v => w_dropSuiteY (e := e) (c := c) (b := back0 c) (by unfold sIdx at h; omega) hsm.suites)
 ·
  -- kind 3
  by_cases h : e.most = c.number
  · exact dn_errz hf hsm hce hc (fk := 169) (by rw [h3]; rfl) (by unfold stepR; rw [if_neg (by rw [h3]; decide)]; rw [if_neg (by rw [h3]; decide)]; rw [if_pos h3]; exact if_pos h) (by decide) (fun wb ob => w_fsetMostT (e := e) (c := c) (b := back0 c) h)
  · exact dn_okz hf hsm hce hc (fk := 169) (e2 := { e with most := c.number }) (b := ⟨c.endpoint, c.kind, e.most, 0, zeroId⟩) (by rw [h3]; rfl) (by unfold stepR; rw [if_neg (by rw [h3]; decide)]; rw [if_neg (by rw [h3]; decide)]; rw [if_pos h3]; exact if_neg h) id0_small ⟨hf.name, hf.ids⟩ (fun wb ob => w_fsetMostY (e := e) (c := c) (b := back0 c) h)
 ·
  -- kind 4
  by_cases h : e.least = c.number
  · exact dn_errz hf hsm hce hc (fk := 170) (by rw [h4]; rfl) (by unfold stepR; rw [if_neg (by rw [h4]; decide)]; rw [if_neg (by rw [h4]; decide)]; rw [if_neg (by rw [h4]; decide)]; rw [if_pos h4]; exact if_pos h) (by decide) (fun wb ob => w_fsetLeastT (e := e) (c := c) (b := back0 c) h)
  · exact dn_okz hf hsm hce hc (fk := 170) (e2 := { e with least := c.number }) (b := ⟨c.endpoint, c.kind, e.least, 0, zeroId⟩) (by rw [h4]; rfl) (by unfold stepR; rw [if_neg (by rw [h4]; decide)]; rw [if_neg (by rw [h4]; decide)]; rw [if_neg (by rw [h4]; decide)]; rw [if_pos h4]; exact if_neg h) id0_small ⟨hf.name, hf.ids⟩ (fun wb ob => w_fsetLeastY (e := e) (c := c) (b := back0 c) h)
 ·
  -- kind 5
  by_cases hr : 0 ≤ c.at_ ∧ c.at_ ≤ (e.ids.length : Nat)
  by_cases h : 0 ≤ keyIdx c.idn.keyId e.ids
  · exact dn_errn hf hsm hce hc (fk := 171) (by rw [h5]; rfl) (by unfold stepR; rw [if_neg (by rw [h5]; decide)]; rw [if_neg (by rw [h5]; decide)]; rw [if_neg (by rw [h5]; decide)]; rw [if_neg (by rw [h5]; decide)]; rw [if_pos h5]; rw [if_neg (fun h => h hr)]; exact if_pos h) (by decide) (fun wb ob v => w_addIdnT (e := e) (c := c) (b := back0 c) hcs hr hsm.idl h)
  · exact dn_okn hf hsm hce hc (fk := 171) (e2 := { e with ids := e.ids.take c.at_.toNat ++ [c.idn] ++ e.ids.drop c.at_.toNat }) (b := ⟨c.endpoint, 6, c.idn.keyId, 0, zeroId⟩) (by rw [h5]; rfl) (by unfold stepR; rw [if_neg (by rw [h5]; decide)]; rw [if_neg (by rw [h5]; decide)]; rw [if_neg (by rw [h5]; decide)]; rw [if_neg (by rw [h5]; decide)]; rw [if_pos h5]; rw [if_neg (fun h => h hr)]; exact if_neg h) id0_small ⟨hf.name, ids_ins hf.ids hcf⟩ (fun wb ob v => FunD.perm (w_addIdnY (e := e) (c := c) (b := back0 c) hcs hr hsm.idl (by omega)) (List.Perm.swap _ _ _))
  · exact dn_errn hf hsm hce hc (fk := 171) (by rw [h5]; rfl) (by unfold stepR; rw [if_neg (by rw [h5]; decide)]; rw [if_neg (by rw [h5]; decide)]; rw [if_neg (by rw [h5]; decide)]; rw [if_neg (by rw [h5]; decide)]; rw [if_pos h5]; exact if_pos hr) (by decide) (fun wb ob v => w_addIdnR (e := e) (c := c) (b := back0 c) hcs hr)
 ·
  -- kind 6
  by_cases h : keyIdx c.number e.ids < 0
  · exact dn_errn hf hsm hce hc (fk := 172) (by rw [h6]; rfl) (by unfold stepR; rw [if_neg (by rw [h6]; decide)]; rw [if_neg (by rw [h6]; decide)]; rw [if_neg (by rw [h6]; decide)]; rw [if_neg (by rw [h6]; decide)]; rw [if_neg (by rw [h6]; decide)]; rw [if_pos h6]; cases e.ids[(keyIdx c.number e.ids).toNat]? <;> first | rfl | exact if_pos h) (by decide) (fun wb ob v => w_dropIdnN (e := e) (c := c) (b := back0 c) (x := zeroId) h)
  obtain ⟨x, hx, _, _⟩ := idx_hit (p := fun x : Idn => x.keyId == c.number) (l := e.ids) (by unfold keyIdx at h; omega)
  have hx : e.ids[(keyIdx c.number e.ids).toNat]? = some x := hx
  by_cases ht : ((e.ids.drop (keyIdx c.number e.ids + 1).toNat).any fun x => x.keyId == c.number) = true
  · exact dn_errn hf hsm hce hc (fk := 172) (by rw [h6]; rfl) (by unfold stepR; rw [if_neg (by rw [h6]; decide)]; rw [if_neg (by rw [h6]; decide)]; rw [if_neg (by rw [h6]; decide)]; rw [if_neg (by rw [h6]; decide)]; rw [if_neg (by rw [h6]; decide)]; rw [if_pos h6]; rw [hx]; exact (if_neg h).trans (if_pos ht)) (by decide) (fun wb ob v => w_dropIdnT (e := e) (c := c) (b := back0 c) (x := x) (by omega) hx ht hsm.idl)
  · exact dn_okn hf hsm hce hc (fk := 172) (e2 := { e with ids := e.ids.eraseIdx (keyIdx c.number e.ids).toNat }) (b := ⟨c.endpoint, 5, 0, keyIdx c.number e.ids, x⟩) (by rw [h6]; rfl) (by unfold stepR; rw [if_neg (by rw [h6]; decide)]; rw [if_neg (by rw [h6]; decide)]; rw [if_neg (by rw [h6]; decide)]; rw [if_neg (by rw [h6]; decide)]; rw [if_neg (by rw [h6]; decide)]; rw [if_pos h6]; rw [hx]; exact (if_neg h).trans (if_neg ht)) (hsm.ids x (List.mem_of_getElem? hx)) ⟨hf.name, ids_del hf.ids⟩ (fun wb ob v => w_dropIdnY (e := e) (c := c) (b := back0 c) (x := x) (by omega) hx (Bool.eq_false_iff.2 ht) hsm.idl)
 ·
  -- kind 7
  by_cases h : hasX e.anchors c.number = true
  · exact dn_erra hf hsm hce hc (fk := 173) (by rw [h7]; rfl) (by unfold stepR; rw [if_neg (by rw [h7]; decide)]; rw [if_neg (by rw [h7]; decide)]; rw [if_neg (by rw [h7]; decide)]; rw [if_neg (by rw [h7]; decide)]; rw [if_neg (by rw [h7]; decide)]; rw [if_neg (by rw [h7]; decide)]; rw [if_pos h7]; exact if_pos h) (by decide) (fun wb ob v => w_addAnchorT (e := e) (c := c) (b := back0 c) (ascI_of ok.anc) hsm.anchors h)
  · exact dn_oka hf hsm hce hc (fk := 173) (e2 := { e with anchors := insX e.anchors c.number }) (b := ⟨c.endpoint, 8, c.number, 0, zeroId⟩) (by rw [h7]; rfl) (by unfold stepR; rw [if_neg (by rw [h7]; decide)]; rw [if_neg (by rw [h7]; decide)]; rw [if_neg (by rw [h7]; decide)]; rw [if_neg (by rw [h7]; decide)]; rw [if_neg (by rw [h7]; decide)]; rw [if_neg (by rw [h7]; decide)]; rw [if_pos h7]; exact if_neg h) id0_small ⟨hf.name, hf.ids⟩ (fun wb ob v => w_addAnchorY (e := e) (c := c) (b := back0 c) (ascI_of ok.anc) hsm.anchors (Bool.eq_false_iff.2 h))
 ·
  -- kind 8
  by_cases h : hasX e.anchors c.number = true
  · exact dn_oka hf hsm hce hc (fk := 174) (e2 := { e with anchors := e.anchors.eraseIdx (posI e.anchors c.number) }) (b := ⟨c.endpoint, 7, c.number, 0, zeroId⟩) (by rw [h8]; rfl) (by unfold stepR; rw [if_neg (by rw [h8]; decide)]; rw [if_neg (by rw [h8]; decide)]; rw [if_neg (by rw [h8]; decide)]; rw [if_neg (by rw [h8]; decide)]; rw [if_neg (by rw [h8]; decide)]; rw [if_neg (by rw [h8]; decide)]; rw [if_neg (by rw [h8]; decide)]; rw [if_pos h8]; exact if_pos h) id0_small ⟨hf.name, hf.ids⟩ (fun wb ob v => w_dropAnchorY (e := e) (c := c) (b := back0 c) (ascI_of ok.anc) hsm.anchors h)
  · exact dn_erra hf hsm hce hc (fk := 174) (by rw [h8]; rfl) (by unfold stepR; rw [if_neg (by rw [h8]; decide)]; rw [if_neg (by rw [h8]; decide)]; rw [if_neg (by rw [h8]; decide)]; rw [if_neg (by rw [h8]; decide)]; rw [if_neg (by rw [h8]; decide)]; rw [if_neg (by rw [h8]; decide)]; rw [if_neg (by rw [h8]; decide)]; rw [if_pos h8]; exact if_neg h) (by decide) (fun wb ob v => w_dropAnchorT (e := e) (c := c) (b := back0 c) (ascI_of ok.anc) hsm.anchors (Bool.eq_false_iff.2 h))
 ·
  -- kind 9
  by_cases h : hasX e.hashes c.number = true
  · exact dn_errh hf hsm hce hc (fk := 175) (by rw [h9]; rfl) (by unfold stepR; rw [if_neg (by rw [h9]; decide)]; rw [if_neg (by rw [h9]; decide)]; rw [if_neg (by rw [h9]; decide)]; rw [if_neg (by rw [h9]; decide)]; rw [if_neg (by rw [h9]; decide)]; rw [if_neg (by rw [h9]; decide)]; rw [if_neg (by rw [h9]; decide)]; rw [if_neg (by rw [h9]; decide)]; rw [if_pos h9]; exact if_pos h) (by decide) (fun wb ob v => w_addHashT (e := e) (c := c) (b := back0 c) (ascI_of ok.hash) hsm.hashes h)
  · exact dn_okh hf hsm hce hc (fk := 175) (e2 := { e with hashes := insX e.hashes c.number }) (b := ⟨c.endpoint, 10, c.number, 0, zeroId⟩) (by rw [h9]; rfl) (by unfold stepR; rw [if_neg (by rw [h9]; decide)]; rw [if_neg (by rw [h9]; decide)]; rw [if_neg (by rw [h9]; decide)]; rw [if_neg (by rw [h9]; decide)]; rw [if_neg (by rw [h9]; decide)]; rw [if_neg (by rw [h9]; decide)]; rw [if_neg (by rw [h9]; decide)]; rw [if_neg (by rw [h9]; decide)]; rw [if_pos h9]; exact if_neg h) id0_small ⟨hf.name, hf.ids⟩ (fun wb ob v => w_addHashY (e := e) (c := c) (b := back0 c) (ascI_of ok.hash) hsm.hashes (Bool.eq_false_iff.2 h))
 ·
  -- kind 10
  by_cases h : hasX e.hashes c.number = true
  · exact dn_okh hf hsm hce hc (fk := 176) (e2 := { e with hashes := e.hashes.eraseIdx (posI e.hashes c.number) }) (b := ⟨c.endpoint, 9, c.number, 0, zeroId⟩) (by rw [h10]; rfl) (by unfold stepR; rw [if_neg (by rw [h10]; decide)]; rw [if_neg (by rw [h10]; decide)]; rw [if_neg (by rw [h10]; decide)]; rw [if_neg (by rw [h10]; decide)]; rw [if_neg (by rw [h10]; decide)]; rw [if_neg (by rw [h10]; decide)]; rw [if_neg (by rw [h10]; decide)]; rw [if_neg (by rw [h10]; decide)]; rw [if_neg (by rw [h10]; decide)]; rw [if_pos h10]; exact if_pos h) id0_small ⟨hf.name, hf.ids⟩ (fun wb ob v => w_dropHashY (e := e) (c := c) (b := back0 c) (ascI_of ok.hash) hsm.hashes h)
  · exact dn_errh hf hsm hce hc (fk := 176) (by rw [h10]; rfl) (by unfold stepR; rw [if_neg (by rw [h10]; decide)]; rw [if_neg (by rw [h10]; decide)]; rw [if_neg (by rw [h10]; decide)]; rw [if_neg (by rw [h10]; decide)]; rw [if_neg (by rw [h10]; decide)]; rw [if_neg (by rw [h10]; decide)]; rw [if_neg (by rw [h10]; decide)]; rw [if_neg (by rw [h10]; decide)]; rw [if_neg (by rw [h10]; decide)]; rw [if_pos h10]; exact if_neg h) (by decide) (fun wb ob v => w_dropHashT (e := e) (c := c) (b := back0 c) (ascI_of ok.hash) hsm.hashes (Bool.eq_false_iff.2 h))
 ·
  -- kind 11
  by_cases hr : 0 ≤ c.number ∧ c.number ≤ 1
  by_cases h : bitI e.fall = c.number
  · exact dn_errz hf hsm hce hc (fk := 177) (by rw [h11]; rfl) (by unfold stepR; rw [if_neg (by rw [h11]; decide)]; rw [if_neg (by rw [h11]; decide)]; rw [if_neg (by rw [h11]; decide)]; rw [if_neg (by rw [h11]; decide)]; rw [if_neg (by rw [h11]; decide)]; rw [if_neg (by rw [h11]; decide)]; rw [if_neg (by rw [h11]; decide)]; rw [if_neg (by rw [h11]; decide)]; rw [if_neg (by rw [h11]; decide)]; rw [if_neg (by rw [h11]; decide)]; rw [if_pos h11]; rw [if_neg (fun h => h hr)]; exact if_pos h) (by decide) (fun wb ob => w_fsetFallbackT (e := e) (c := c) (b := back0 c) hr rfl h)
  · exact dn_okz hf hsm hce hc (fk := 177) (e2 := { e with fall := (c.number == 1) }) (b := ⟨c.endpoint, c.kind, bitI e.fall, 0, zeroId⟩) (by rw [h11]; rfl) (by unfold stepR; rw [if_neg (by rw [h11]; decide)]; rw [if_neg (by rw [h11]; decide)]; rw [if_neg (by rw [h11]; decide)]; rw [if_neg (by rw [h11]; decide)]; rw [if_neg (by rw [h11]; decide)]; rw [if_neg (by rw [h11]; decide)]; rw [if_neg (by rw [h11]; decide)]; rw [if_neg (by rw [h11]; decide)]; rw [if_neg (by rw [h11]; decide)]; rw [if_neg (by rw [h11]; decide)]; rw [if_pos h11]; rw [if_neg (fun h => h hr)]; exact if_neg h) id0_small ⟨hf.name, hf.ids⟩ (fun wb ob => w_fsetFallbackY (e := e) (c := c) (b := back0 c) hr rfl h)
  · exact dn_errz hf hsm hce hc (fk := 177) (by rw [h11]; rfl) (by unfold stepR; rw [if_neg (by rw [h11]; decide)]; rw [if_neg (by rw [h11]; decide)]; rw [if_neg (by rw [h11]; decide)]; rw [if_neg (by rw [h11]; decide)]; rw [if_neg (by rw [h11]; decide)]; rw [if_neg (by rw [h11]; decide)]; rw [if_neg (by rw [h11]; decide)]; rw [if_neg (by rw [h11]; decide)]; rw [if_neg (by rw [h11]; decide)]; rw [if_neg (by rw [h11]; decide)]; rw [if_pos h11]; exact if_pos hr) (by decide) (fun wb ob => w_fsetFallbackR (e := e) (c := c) (b := back0 c) hr)
 ·
  -- kind 12
  by_cases hr : 0 ≤ c.number ∧ c.number ≤ 1
  by_cases h : bitI e.own = c.number
  · exact dn_errz hf hsm hce hc (fk := 178) (by rw [h12]; rfl) (by unfold stepR; rw [if_neg (by rw [h12]; decide)]; rw [if_neg (by rw [h12]; decide)]; rw [if_neg (by rw [h12]; decide)]; rw [if_neg (by rw [h12]; decide)]; rw [if_neg (by rw [h12]; decide)]; rw [if_neg (by rw [h12]; decide)]; rw [if_neg (by rw [h12]; decide)]; rw [if_neg (by rw [h12]; decide)]; rw [if_neg (by rw [h12]; decide)]; rw [if_neg (by rw [h12]; decide)]; rw [if_neg (by rw [h12]; decide)]; rw [if_neg (fun h => h hr)]; exact if_pos h) (by decide) (fun wb ob => w_fsetOrderT (e := e) (c := c) (b := back0 c) hr rfl h)
  · exact dn_okz hf hsm hce hc (fk := 178) (e2 := { e with own := (c.number == 1) }) (b := ⟨c.endpoint, c.kind, bitI e.own, 0, zeroId⟩) (by rw [h12]; rfl) (by unfold stepR; rw [if_neg (by rw [h12]; decide)]; rw [if_neg (by rw [h12]; decide)]; rw [if_neg (by rw [h12]; decide)]; rw [if_neg (by rw [h12]; decide)]; rw [if_neg (by rw [h12]; decide)]; rw [if_neg (by rw [h12]; decide)]; rw [if_neg (by rw [h12]; decide)]; rw [if_neg (by rw [h12]; decide)]; rw [if_neg (by rw [h12]; decide)]; rw [if_neg (by rw [h12]; decide)]; rw [if_neg (by rw [h12]; decide)]; rw [if_neg (fun h => h hr)]; exact if_neg h) id0_small ⟨hf.name, hf.ids⟩ (fun wb ob => w_fsetOrderY (e := e) (c := c) (b := back0 c) hr rfl h)
  · exact dn_errz hf hsm hce hc (fk := 178) (by rw [h12]; rfl) (by unfold stepR; rw [if_neg (by rw [h12]; decide)]; rw [if_neg (by rw [h12]; decide)]; rw [if_neg (by rw [h12]; decide)]; rw [if_neg (by rw [h12]; decide)]; rw [if_neg (by rw [h12]; decide)]; rw [if_neg (by rw [h12]; decide)]; rw [if_neg (by rw [h12]; decide)]; rw [if_neg (by rw [h12]; decide)]; rw [if_neg (by rw [h12]; decide)]; rw [if_neg (by rw [h12]; decide)]; rw [if_neg (by rw [h12]; decide)]; exact if_pos hr) (by decide) (fun wb ob => w_fsetOrderR (e := e) (c := c) (b := back0 c) hr)

theorem w_Apply24 {e : Ept} {c : Chg} (hf : e.fits) (hsm : e.small) (hcf : c.idn.fits) (hcs : c.idn.small) : Fun prog 18 [agg (rowEp e), agg (rowChg c)] (tup [agg (rowEp (doneR e c).1), int (doneR e c).2.2]) := by
 refine fo func18 rfl ⟨rfl, rfl⟩ fun M0 w0 => (Tr.seq (Tr.regT (tp rfl (ok_box rfl (Va rfl)) (tp rfl (ok_box rfl (Va rfl)) ?_))))
 refine Tl rfl rfl rfl rfl z32 zo32 (fun b1 => ?_)
 refine ao ?_
 refine ao ?_
 refine tp rfl (kc2 (w_done hf hsm hcf hcs) rfl rfl rfl) ?_
 refine ao ?_
 refine Tl rfl rfl rfl rfl z32 zo32 (fun b2 => ?_)
 refine Tl rfl rfl rfl rfl z29 zo29 (fun b3 => ?_)
 refine sf 1 6 ⟨rfl, rfl, rfl⟩ rfl rfl rfl rfl ?_
 refine sf 0 7 ⟨rfl, rfl, rfl⟩ rfl rfl rfl rfl ?_
 refine ao ?_
 refine wk3 4 6 8 rfl ?_
 refine ao ?_
 refine TO.store_all 0 rfl rfl rfl (vl rfl) (Va rfl) rfl sz32 rfl rfl ?_
 refine ao ?_
 refine Tr.ret (Fin.retX2 rfl (RVal.cell 0 rfl rfl agg32 sz32 rfl (Lr)) (RVal.tmp rfl (Lr)) ?_)
 refine tup_le ⟨?_, ?_, trivial⟩
 · exact Lr
 · exact Lr
theorem eqv129 {d : Nat} {w : World} {x0 y0 : Int} {x1 y1 : Int} : (Op.equalIn (d + 2) 129 (.agg #[.int .i64 x0, .int .i64 x1]) (.agg #[.int .i64 y0, .int .i64 y1])).run Tryz.prog w = .ok (decide (x0 = y0 ∧ x1 = y1)) w := by
 have h := eqS (w := w) (d := d + 1) (xs := #[.int .i64 x0, .int .i64 x1]) (ys := #[.int .i64 y0, .int .i64 y1]) Tryz.underlying129 (by kernel_rfl) (eqF_cons (by decide) (part_leaf one3 rfl) (part_leaf one3 rfl) (eq_intL (d := d + 0) Tryz.underlying3) (eqF_cons (by decide) (part_leaf one3 rfl) (part_leaf one3 rfl) (eq_intL (d := d + 0) Tryz.underlying3) (eqF_nil)))
 refine h.trans (congrArg (fun b => Result.ok b w) ?_)
 rw [Bool.eq_iff_iff]; simp [and_assoc]
theorem ok_eq129 {E : Env} {I : Asn} {o : Oper} {u : TypeId} {x y : Operand} {x0 y0 : Int} {x1 y1 : Int} (ho : o.op = .binOp .eql 129 x y u) (hx : VL E x (agg [is (.int .i64 x0), is (.int .i64 x1)])) (hy : VL E y (agg [is (.int .i64 y0), is (.int .i64 y1)])) : OpOK Tryz.prog I o E (bool (decide (x0 = y0 ∧ x1 = y1))) :=
 ok_eqagg [.int .i64 x0, .int .i64 x1] [.int .i64 y0, .int .i64 y1] ho hx hy (by kernel_rfl) (fun w => by rw [show Op.equal 129 _ _ = Op.equalIn (9998 + 2) 129 _ _ from rfl]; exact eqv129)
theorem ok_ne129 {E : Env} {I : Asn} {o : Oper} {u : TypeId} {x y : Operand} {x0 y0 : Int} {x1 y1 : Int} (ho : o.op = .binOp .neq 129 x y u) (hx : VL E x (agg [is (.int .i64 x0), is (.int .i64 x1)])) (hy : VL E y (agg [is (.int .i64 y0), is (.int .i64 y1)])) : OpOK Tryz.prog I o E (bool (!decide (x0 = y0 ∧ x1 = y1))) :=
 ok_neagg [.int .i64 x0, .int .i64 x1] [.int .i64 y0, .int .i64 y1] ho hx hy (by kernel_rfl) (fun w => by rw [show Op.equal 129 _ _ = Op.equalIn (9998 + 2) 129 _ _ from rfl]; exact eqv129)

deriving instance DecidableEq for Crt
deriving instance DecidableEq for Idn
deriving instance DecidableEq for Ept
deriving instance DecidableEq for Chg
theorem sameY {α : Type} {a b : List α} {k : Nat} {x y : α} (ha : a[k]? = some x) (hb : b[k]? = some y) (h : a.take k = b.take k) (e : x = y) : a.take (k + 1) = b.take (k + 1) := by
 rw [List.take_add_one, List.take_add_one, ha, hb, h, e]
theorem sameN {α : Type} {a b : List α} {k : Nat} {x y : α} (ha : a[k]? = some x) (hb : b[k]? = some y) (e : ¬ x = y) : ¬ a = b := by
 rintro rfl; rw [ha] at hb; cases hb; exact e rfl
theorem sameA {α : Type} {a b : List α} (hl : a.length = b.length) (h : a.take a.length = b.take a.length) : a = b := by
 rw [List.take_length, hl, List.take_length] at h; exact h

theorem w_SameInts {a b : List (Int)}  : Fun prog 82 [ints a, ints b] (bool (decide (a = b))) := by
 refine fo func82 rfl ⟨rfl, rfl⟩ fun M0 w0 => (Tr.lenm 0 rfl fun hlm_0 => (Tr.lenm 1 rfl fun hlm_1 => ?_))
 refine ac ?_
 refine an ?_ ?_ <;> intro h1 q1
 have hne : ¬ a.length = b.length := by simp_all; omega
 refine a2 ?_
 · refine bool_eq ?_; symm; rw [decide_eq_false_iff_not]; rintro rfl; exact hne rfl
 have hll : a.length = b.length := by simp_all; omega
 refine a2 ?_
 refine Tr.block (Tr.loopw [(0, _), (1, _)] (kk2 rfl) (fun k : Nat => [(5, int ((k : Nat) : Int))]) (fun k : Nat => k ≤ (a).length ∧ (a.take k = b.take k)) (fun k : Nat => (a).length - k) 0 (⟨Nat.zero_le _, rfl⟩) ⟨ke rfl, trivial⟩ ?_)
 rintro k ⟨hle_k, hinv_k⟩
 refine an ?_ ?_ <;> intro h2 q2
 have hk_k : k < (a).length := lt_of_dec h2
 obtain ⟨x, hx_k⟩ := at_ hk_k
 obtain ⟨y, hy⟩ := at_ (l := b) (k := k) (by omega)
 · repeat' first | (refine bool_eq ?_; symm; rw [decide_eq_false_iff_not]; refine sameN hx_k hy ?_; rintro rfl; simp_all) | exact Fin.fam_same (k + 1) ⟨⟨hk_k, sameY hx_k hy hinv_k (by simp_all)⟩, by omega⟩ ⟨⟨_, rfl, int_succ k⟩, ke rfl, ke rfl, trivial⟩ | refine co rfl (ok_indexAddr rfl underlying22 sz3 (vl rfl) (vl rfl) (by omega) (row_at hx_k)) ?_ | refine co rfl (ok_indexAddr rfl underlying22 sz3 (vl rfl) (vl rfl) (by omega) (row_at hy)) ?_ | refine ac ?_ | (refine Tr.cn rfl ?_ ?_ <;> intro h q)
 have he_k : k = (a).length := by have := ge_of_dec h2; omega
 subst he_k
 refine a3 ?_
 · refine bool_eq ?_; symm; rw [decide_eq_true_eq]; exact sameA hll hinv_k
theorem w_SameTexts {a b : List (List UInt8)}  : Fun prog 220 [txts a, txts b] (bool (decide (a = b))) := by
 refine fo func220 rfl ⟨rfl, rfl⟩ fun M0 w0 => (Tr.lenm 0 rfl fun hlm_0 => (Tr.lenm 1 rfl fun hlm_1 => ?_))
 refine ac ?_
 refine an ?_ ?_ <;> intro h1 q1
 have hne : ¬ a.length = b.length := by simp_all; omega
 refine a2 ?_
 · refine bool_eq ?_; symm; rw [decide_eq_false_iff_not]; rintro rfl; exact hne rfl
 have hll : a.length = b.length := by simp_all; omega
 refine a2 ?_
 refine Tr.block (Tr.loopw [(0, _), (1, _)] (kk2 rfl) (fun k : Nat => [(5, int ((k : Nat) : Int))]) (fun k : Nat => k ≤ (a).length ∧ (a.take k = b.take k)) (fun k : Nat => (a).length - k) 0 (⟨Nat.zero_le _, rfl⟩) ⟨ke rfl, trivial⟩ ?_)
 rintro k ⟨hle_k, hinv_k⟩
 refine an ?_ ?_ <;> intro h2 q2
 have hk_k : k < (a).length := lt_of_dec h2
 obtain ⟨x, hx_k⟩ := at_ hk_k
 obtain ⟨y, hy⟩ := at_ (l := b) (k := k) (by omega)
 · repeat' first | (refine bool_eq ?_; symm; rw [decide_eq_false_iff_not]; refine sameN hx_k hy ?_; rintro rfl; simp_all) | exact Fin.fam_same (k + 1) ⟨⟨hk_k, sameY hx_k hy hinv_k (by simp_all)⟩, by omega⟩ ⟨⟨_, rfl, int_succ k⟩, ke rfl, ke rfl, trivial⟩ | refine co rfl (ok_indexAddr rfl underlying74 sz9 (vl rfl) (vl rfl) (by omega) (row_at hx_k)) ?_ | refine co rfl (ok_indexAddr rfl underlying74 sz9 (vl rfl) (vl rfl) (by omega) (row_at hy)) ?_ | refine ac ?_ | (refine Tr.cn rfl ?_ ?_ <;> intro h q)
 have he_k : k = (a).length := by have := ge_of_dec h2; omega
 subst he_k
 refine a3 ?_
 · refine bool_eq ?_; symm; rw [decide_eq_true_eq]; exact sameA hll hinv_k
theorem w_R3Same {a b : Crt}  : Fun prog 182 [agg (rowCr a), agg (rowCr b)] (bool (decide (a = b))) := by
 refine fo func182 rfl ⟨rfl, rfl⟩ fun M0 w0 => ?_
 · repeat' first | (refine bool_eq ?_; cases a; cases b; simp_all) | refine cy h rfl (kc2 (w_SameTexts) rfl rfl rfl) ?_ | refine cy h rfl (ok_eq129 rfl (vl rfl) (vl rfl)) ?_ | refine cy h rfl (ok_eq24 rfl (vl rfl) (vl rfl)) ?_ | refine ac ?_ | (refine Ch.cg rfl rfl rfl ?_ ?_ <;> intro h q)
theorem w_R3SameChain {a b : List (Crt)}  : Fun prog 129 [certs a, certs b] (bool (decide (a = b))) := by
 refine fo func129 rfl ⟨rfl, rfl⟩ fun M0 w0 => (Tr.lenm 0 rfl fun hlm_0 => (Tr.lenm 1 rfl fun hlm_1 => ?_))
 refine ac ?_
 refine an ?_ ?_ <;> intro h1 q1
 have hne : ¬ a.length = b.length := by simp_all; omega
 refine a2 ?_
 · refine bool_eq ?_; symm; rw [decide_eq_false_iff_not]; rintro rfl; exact hne rfl
 have hll : a.length = b.length := by simp_all; omega
 refine a2 ?_
 refine Tr.block (Tr.loopw [(0, _), (1, _)] (kk2 rfl) (fun k : Nat => [(5, int ((k : Nat) : Int))]) (fun k : Nat => k ≤ (a).length ∧ (a.take k = b.take k)) (fun k : Nat => (a).length - k) 0 (⟨Nat.zero_le _, rfl⟩) ⟨ke rfl, trivial⟩ ?_)
 rintro k ⟨hle_k, hinv_k⟩
 refine an ?_ ?_ <;> intro h2 q2
 have hk_k : k < (a).length := lt_of_dec h2
 obtain ⟨x, hx_k⟩ := at_ hk_k
 obtain ⟨y, hy⟩ := at_ (l := b) (k := k) (by omega)
 · repeat' first | (refine bool_eq ?_; symm; rw [decide_eq_false_iff_not]; refine sameN hx_k hy ?_; rintro rfl; simp_all) | exact Fin.fam_same (k + 1) ⟨⟨hk_k, sameY hx_k hy hinv_k (by simp_all)⟩, by omega⟩ ⟨⟨_, rfl, int_succ k⟩, ke rfl, ke rfl, trivial⟩ | refine co rfl (ok_indexAddr rfl underlying25 sz131 (vl rfl) (vl rfl) (by omega) (row_at hx_k)) ?_ | refine co rfl (ok_indexAddr rfl underlying25 sz131 (vl rfl) (vl rfl) (by omega) (row_at hy)) (co rfl (ok_loadA rfl agg131 sz131 (vl rfl) rfl rfl) (co rfl (kc2 (w_R3Same) rfl rfl rfl) ?_)) | refine ac ?_ | (refine Tr.cn rfl ?_ ?_ <;> intro h q)
 have he_k : k = (a).length := by have := ge_of_dec h2; omega
 subst he_k
 refine a3 ?_
 · refine bool_eq ?_; symm; rw [decide_eq_true_eq]; exact sameA hll hinv_k
theorem w_R9SameIds {a b : List (Idn)}  : Fun prog 83 [idns a, idns b] (bool (decide (a = b))) := by
 refine fo func83 rfl ⟨rfl, rfl⟩ fun M0 w0 => (Tr.lenm 0 rfl fun hlm_0 => (Tr.lenm 1 rfl fun hlm_1 => ?_))
 refine ac ?_
 refine an ?_ ?_ <;> intro h1 q1
 have hne : ¬ a.length = b.length := by simp_all; omega
 refine a2 ?_
 · refine bool_eq ?_; symm; rw [decide_eq_false_iff_not]; rintro rfl; exact hne rfl
 have hll : a.length = b.length := by simp_all; omega
 refine a2 ?_
 refine Tr.block (Tr.loopw [(0, _), (1, _)] (kk2 rfl) (fun k : Nat => [(5, int ((k : Nat) : Int))]) (fun k : Nat => k ≤ (a).length ∧ (a.take k = b.take k)) (fun k : Nat => (a).length - k) 0 (⟨Nat.zero_le _, rfl⟩) ⟨ke rfl, trivial⟩ ?_)
 rintro k ⟨hle_k, hinv_k⟩
 refine an ?_ ?_ <;> intro h2 q2
 have hk_k : k < (a).length := lt_of_dec h2
 obtain ⟨x, hx_k⟩ := at_ hk_k
 obtain ⟨y, hy⟩ := at_ (l := b) (k := k) (by omega)
 · repeat' first | (refine bool_eq ?_; symm; rw [decide_eq_false_iff_not]; refine sameN hx_k hy ?_; rintro rfl; simp_all) | (exact Fin.fam_same (k + 1) ⟨⟨hk_k, sameY hx_k hy hinv_k (by cases x; cases y; simp_all)⟩, by omega⟩ ⟨⟨_, rfl, int_succ k⟩, ke rfl, ke rfl, trivial⟩) | refine co rfl (ok_indexAddr rfl underlying30 sz27 (vl rfl) (vl rfl) (by omega) (row_at hx_k)) ?_ | refine co rfl (ok_indexAddr rfl underlying30 sz27 (vl rfl) (vl rfl) (by omega) (row_at hy)) ?_ | refine co rfl (ok_ne24 rfl (vl rfl) (vl rfl)) (cm rfl ?_) | refine cy h rfl (kc2 (w_R3SameChain) rfl rfl rfl) ?_ | refine cy h rfl (ok_indexAddr rfl underlying30 sz27 (vl rfl) (vl rfl) (by omega) (row_at hx_k)) ?_ | refine cy h rfl (ok_indexAddr rfl underlying30 sz27 (vl rfl) (vl rfl) (by omega) (row_at hy)) ?_ | refine ac ?_ | (refine Tr.cn rfl ?_ ?_ <;> intro h q) | (refine Ch.cg rfl rfl rfl ?_ ?_ <;> intro h q)
 have he_k : k = (a).length := by have := ge_of_dec h2; omega
 subst he_k
 refine a3 ?_
 · refine bool_eq ?_; symm; rw [decide_eq_true_eq]; exact sameA hll hinv_k
theorem w_R9Same {a b : Ept}  : Fun prog 22 [agg (rowEp a), agg (rowEp b)] (bool (decide (a = b))) := by
 refine fo func22 rfl ⟨rfl, rfl⟩ fun M0 w0 => ?_
 · repeat' first | (refine bool_eq ?_; cases a; cases b; simp_all [Bool.beq_eq_decide_eq]) | refine cy h rfl (kc2 (w_R9SameIds) rfl rfl rfl) ?_ | refine cy h rfl (kc2 (w_SameInts) rfl rfl rfl) ?_ | refine ac ?_ | (refine Ch.cg rfl rfl rfl ?_ ?_ <;> intro h q)
theorem w_R24SameC {a b : Crt} (hn : a.names.length ≤ 8796093022208) : Fun prog 130 [agg (rowCr a), agg (rowCr b)] (bool (decide (a = b))) := by
 refine fo func130 rfl ⟨rfl, rfl⟩ fun M0 w0 => ?_
 refine ac ?_
 refine ag ?_ ?_ <;> intro h1 q1
 refine ac ?_
 refine wk3 2 3 89 rfl ?_
 refine a2 ?_
 · refine bool_eq ?_; symm; rw [decide_eq_false_iff_not]; rintro rfl; simp_all
 refine ag ?_ ?_ <;> intro h2 q2
 refine ac ?_
 refine wk3 2 3 89 rfl ?_
 refine a2 ?_
 · refine bool_eq ?_; symm; rw [decide_eq_false_iff_not]; rintro rfl; simp_all
 refine ag ?_ ?_ <;> intro h3 q3
 refine ac ?_
 refine wk3 2 3 89 rfl ?_
 refine a2 ?_
 · refine bool_eq ?_; symm; rw [decide_eq_false_iff_not]; rintro rfl; simp_all
 refine ac ?_
 refine cy h3 rfl (ok_ne24 rfl (vl rfl) (vl rfl)) ?_
 refine ag ?_ ?_ <;> intro h4 q4
 refine ac ?_
 refine wk3 2 3 89 rfl ?_
 refine a2 ?_
 · refine bool_eq ?_; symm; rw [decide_eq_false_iff_not]; rintro rfl; simp_all
 refine ag ?_ ?_ <;> intro h5 q5
 refine ac ?_
 refine wk3 2 3 89 rfl ?_
 refine a2 ?_
 · refine bool_eq ?_; symm; rw [decide_eq_false_iff_not]; rintro rfl; simp_all
 refine ac ?_
 refine cy h5 rfl (ok_ne24 rfl (vl rfl) (vl rfl)) ?_
 refine ag ?_ ?_ <;> intro h6 q6
 refine ac ?_
 refine wk3 2 3 89 rfl ?_
 refine a2 ?_
 · refine bool_eq ?_; symm; rw [decide_eq_false_iff_not]; rintro rfl; simp_all
 refine ag ?_ ?_ <;> intro h7 q7
 refine ac ?_
 refine wk3 2 3 89 rfl ?_
 refine a2 ?_
 · refine bool_eq ?_; symm; rw [decide_eq_false_iff_not]; rintro rfl; simp_all
 refine ag ?_ ?_ <;> intro h8 q8
 refine ac ?_
 refine wk3 2 3 89 rfl ?_
 refine a2 ?_
 · refine bool_eq ?_; symm; rw [decide_eq_false_iff_not]; rintro rfl; simp_all
 refine ac ?_
 refine cy h8 rfl (ok_neb rfl underlying4 (vl rfl) (vl rfl)) ?_
 refine ag ?_ ?_ <;> intro h9 q9
 refine ac ?_
 refine wk3 2 3 89 rfl ?_
 refine a2 ?_
 · refine bool_eq ?_; symm; rw [decide_eq_false_iff_not]; rintro rfl; simp_all
 refine ag ?_ ?_ <;> intro h10 q10
 refine ac ?_
 refine wk3 2 3 89 rfl ?_
 refine a2 ?_
 · refine bool_eq ?_; symm; rw [decide_eq_false_iff_not]; rintro rfl; simp_all
 refine ac ?_
 refine cy h10 rfl (ok_ne129 rfl (vl rfl) (vl rfl)) ?_
 refine ag ?_ ?_ <;> intro h11 q11
 refine ac ?_
 refine wk3 2 3 89 rfl ?_
 refine a2 ?_
 · refine bool_eq ?_; symm; rw [decide_eq_false_iff_not]; rintro rfl; simp_all
 refine ac ?_
 refine wk3 2 3 89 rfl ?_
 refine Tr.cn rfl ?_ ?_ <;> intro h12 q12
 refine a2 ?_
 · refine bool_eq ?_; symm; rw [decide_eq_false_iff_not]; rintro rfl; simp_all
 have hll : a.names.length = b.names.length := by simp_all; omega
 refine a2 ?_
 refine Tr.block (Tr.loopw [(2, _), (3, _), (92, _)] (kk3 rfl) (fun k : Nat => [(93, int ((k : Nat) : Int))]) (fun k : Nat => k ≤ (a.names).length ∧ (a.names.take k = b.names.take k)) (fun k : Nat => (a.names).length - k) 0 (⟨Nat.zero_le _, rfl⟩) ⟨ke rfl, trivial⟩ ?_)
 rintro k ⟨hle_k, hinv_k⟩
 refine ac ?_
 refine Tr.seq ?_
 refine Tr.cn rfl ?_ ?_ <;> intro h13 q13
 have hk_k : k < (a.names).length := lt_of_dec h13
 obtain ⟨x, hx_k⟩ := at_ hk_k
 obtain ⟨y, hy⟩ := at_ (l := b.names) (k := k) (by omega)
 · repeat' first | (refine bool_eq ?_; symm; rw [decide_eq_false_iff_not]; rintro rfl; rw [hx_k] at hy; cases hy; simp_all) | exact Fin.fam_same (k + 1) ⟨⟨hk_k, sameY hx_k hy hinv_k (by simp_all)⟩, by omega⟩ ⟨⟨_, rfl, int_succ k⟩, ke rfl, ke rfl, ke rfl, trivial⟩ | refine co rfl (ok_indexAddr rfl underlying74 sz9 (vl rfl) (vl rfl) (by omega) (row_at hx_k)) ?_ | refine co rfl (ok_indexAddr rfl underlying74 sz9 (vl rfl) (vl rfl) (by omega) (row_at hy)) ?_ | refine ac ?_ | (refine Tr.cn rfl ?_ ?_ <;> intro h q)
 have he_k : k = (a.names).length := by have := ge_of_dec h13; omega
 subst he_k
 refine a3 ?_
 · refine bool_eq ?_; have hnn := sameA hll hinv_k; clear hinv_k hll; cases a; cases b; simp_all
theorem w_R24SameI {a b : Idn} (hs : a.small) : Fun prog 84 [agg (rowId a), agg (rowId b)] (bool (decide (a = b))) := by
 refine fo func84 rfl ⟨rfl, rfl⟩ fun M0 w0 => ?_
 have hsc := hs.chain
 refine a2 ?_
 refine co rfl (ok_ne24 rfl (vl rfl) (vl rfl)) (cm rfl ?_)
 refine Ch.cs 11 rfl ?_ ?_ <;> intro h1 q1
 refine ac ?_
 refine wk3 2 3 26 rfl ?_
 refine a2 ?_
 · refine bool_eq ?_; symm; rw [decide_eq_false_iff_not]; rintro rfl; simp_all
 refine ag ?_ ?_ <;> intro h2 q2
 refine ac ?_
 refine wk3 2 3 26 rfl ?_
 refine a2 ?_
 · refine bool_eq ?_; symm; rw [decide_eq_false_iff_not]; rintro rfl; simp_all
 refine ac ?_
 refine wk3 2 3 26 rfl ?_
 refine Tr.cn rfl ?_ ?_ <;> intro h3 q3
 refine a2 ?_
 · refine bool_eq ?_; symm; rw [decide_eq_false_iff_not]; rintro rfl; simp_all
 have hll : a.chain.length = b.chain.length := by simp_all; omega
 refine a2 ?_
 refine Tr.block (Tr.loopw [(2, _), (3, _), (29, _)] (kk3 rfl) (fun k : Nat => [(30, int ((k : Nat) : Int))]) (fun k : Nat => k ≤ (a.chain).length ∧ (a.chain.take k = b.chain.take k)) (fun k : Nat => (a.chain).length - k) 0 (⟨Nat.zero_le _, rfl⟩) ⟨ke rfl, trivial⟩ ?_)
 rintro k ⟨hle_k, hinv_k⟩
 refine ac ?_
 refine Tr.seq ?_
 refine Tr.cn rfl ?_ ?_ <;> intro h4 q4
 have hk_k : k < (a.chain).length := lt_of_dec h4
 obtain ⟨x, hx_k⟩ := at_ hk_k
 obtain ⟨y, hy⟩ := at_ (l := b.chain) (k := k) (by omega)
 have hxn := hs.names x (List.mem_of_getElem? hx_k)
 · repeat' first | (refine bool_eq ?_; symm; rw [decide_eq_false_iff_not]; rintro rfl; rw [hx_k] at hy; cases hy; simp_all) | exact Fin.fam_same (k + 1) ⟨⟨hk_k, sameY hx_k hy hinv_k (by simp_all)⟩, by omega⟩ ⟨⟨_, rfl, int_succ k⟩, ke rfl, ke rfl, ke rfl, trivial⟩ | refine co rfl (ok_indexAddr rfl underlying25 sz131 (vl rfl) (vl rfl) (by omega) (row_at hx_k)) ?_ | refine co rfl (ok_indexAddr rfl underlying25 sz131 (vl rfl) (vl rfl) (by omega) (row_at hy)) (co rfl (ok_loadA rfl agg131 sz131 (vl rfl) rfl rfl) (co rfl (kc2 (w_R24SameC hxn) rfl rfl rfl) ?_)) | refine ac ?_ | (refine Tr.cn rfl ?_ ?_ <;> intro h q)
 have he_k : k = (a.chain).length := by have := ge_of_dec h4; omega
 subst he_k
 refine a3 ?_
 · refine bool_eq ?_; have hnn := sameA hll hinv_k; clear hinv_k hll hs; cases a; cases b; simp_all
theorem kinds12 {k : Int} (hk : 1 ≤ k ∧ k ≤ 12) : k = 1 ∨ k = 2 ∨ k = 3 ∨ k = 4 ∨ k = 5 ∨ k = 6 ∨ k = 7 ∨ k = 8 ∨ k = 9 ∨ k = 10 ∨ k = 11 ∨ k = 12 := by omega
theorem stepR_ne {e : Ept} {c : Chg} {f : Int} (hc : okCh c) (h : stepR e c = .error f) : f ≠ 0 := by
 rcases kinds12 hc.1 with hk | hk | hk | hk | hk | hk | hk | hk | hk | hk | hk | hk
 · rw [stepR_1 hk] at h; (repeat' (split at h)) <;> first | (injection h with h; omega) | (cases h; done)
 · rw [stepR_2 hk] at h; (repeat' (split at h)) <;> first | (injection h with h; omega) | (cases h; done)
 · rw [stepR_3 hk] at h; (repeat' (split at h)) <;> first | (injection h with h; omega) | (cases h; done)
 · rw [stepR_4 hk] at h; (repeat' (split at h)) <;> first | (injection h with h; omega) | (cases h; done)
 · rw [stepR_5 hk] at h; (repeat' (split at h)) <;> first | (injection h with h; omega) | (cases h; done)
 · rw [stepR_6 hk] at h; (repeat' (split at h)) <;> first | (injection h with h; omega) | (cases h; done)
 · rw [stepR_7 hk] at h; (repeat' (split at h)) <;> first | (injection h with h; omega) | (cases h; done)
 · rw [stepR_8 hk] at h; (repeat' (split at h)) <;> first | (injection h with h; omega) | (cases h; done)
 · rw [stepR_9 hk] at h; (repeat' (split at h)) <;> first | (injection h with h; omega) | (cases h; done)
 · rw [stepR_10 hk] at h; (repeat' (split at h)) <;> first | (injection h with h; omega) | (cases h; done)
 · rw [stepR_11 hk] at h; (repeat' (split at h)) <;> first | (injection h with h; omega) | (cases h; done)
 · rw [stepR_12 hk] at h; (repeat' (split at h)) <;> first | (injection h with h; omega) | (cases h; done)
theorem doneR_inv {e : Ept} {c : Chg} {x : Ept} {b : Chg} (h : doneR e c = (x, b, 0)) : EptOk e ∧ okCh c ∧ stepR e c = .ok (x, b) ∧ EptOk x := by
 unfold doneR at h
 split at h
 · cases h
 next h1 =>
 split at h
 · cases h
 next h2 =>
 have h1 : eptB e = true := by cases hh : eptB e with
  | true => rfl
  | false => exact absurd hh h1
 have h2 : okCh c := Classical.not_not.1 h2
 cases hs : stepR e c with
 | error f =>
  rw [hs] at h
  simp only [Prod.mk.injEq] at h
  exact absurd h.2.2 (stepR_ne h2 hs)
 | ok r =>
  obtain ⟨x', b'⟩ := r
  rw [hs] at h
  simp only at h
  split at h
  next h3 => simp only [Prod.mk.injEq, and_true] at h; obtain ⟨rfl, rfl⟩ := h; exact ⟨eptB_iff.1 h1, h2, rfl, eptB_iff.1 h3⟩
  · cases h
theorem noneB_iff {x : Idn} (h : noneB x = true) : x = zeroId := by
 unfold noneB at h
 obtain ⟨a, b, k, l⟩ := x
 simp only [Bool.and_eq_true, decide_eq_true_eq, beq_iff_eq] at h
 obtain ⟨⟨⟨h1, h2⟩, h3⟩, h4⟩ := h
 have : l = [] := List.length_eq_zero_iff.1 (by omega)
 subst h1; subst h2; subst h3; subst this; rfl
section
variable {α : Type} {p : α → Bool} {l : List α} {a : α} {i : Nat}
theorem idx_none' (h : l.any p = false) : idx p l < 0 := by
 unfold idx
 cases hf : l.findIdx? p with
 | none => show (-1 : Int) < 0; omega
 | some j =>
  rw [List.findIdx?_eq_some_iff_getElem] at hf
  obtain ⟨h1, h2, _⟩ := hf
  rw [List.any_eq_false] at h
  exact absurd h2 (h _ (List.getElem_mem h1))
theorem idx_lt0 (h : idx p l < 0) : l.any p = false := by
 rw [List.any_eq_false]
 intro x hx hp
 unfold idx at h
 cases hf : l.findIdx? p with
 | none => rw [List.findIdx?_eq_none_iff] at hf; rw [hf x hx] at hp; cases hp
 | some j => rw [hf] at h; simp at h; omega
theorem idx_at (hi : l[i]? = some a) (hp : p a = true) (hno : ∀ (j : Nat) y, j < i → l[j]? = some y → p y = false) : idx p l = ((i : Nat) : Int) := by
 unfold idx
 have hlt := lt_of_at hi
 rw [List.getElem?_eq_getElem hlt] at hi; cases hi
 have : l.findIdx? p = some i := by
  rw [List.findIdx?_eq_some_iff_getElem]
  exact ⟨hlt, hp, fun j hj => by rw [hno j _ hj (List.getElem?_eq_getElem (by omega))]; decide⟩
 rw [this]
theorem ins_at (hi : i ≤ l.length) : (l.take i ++ [a] ++ l.drop i)[i]? = some a := by
 rw [List.append_assoc, List.getElem?_append_right (by rw [List.length_take]; omega), List.length_take, show i - min i l.length = 0 by omega]; rfl
theorem ins_lt (hi : i ≤ l.length) {j : Nat} (hj : j < i) : (l.take i ++ [a] ++ l.drop i)[j]? = l[j]? := by
 rw [List.append_assoc, List.getElem?_append_left (by rw [List.length_take]; omega), List.getElem?_take, if_pos hj]
theorem ins_drop (hi : i ≤ l.length) : (l.take i ++ [a] ++ l.drop i).drop (i + 1) = l.drop i := by
 rw [List.drop_append_of_le_length (by simp [List.length_take]; omega), List.drop_eq_nil_of_le (by simp [List.length_take]; omega)]; rfl
theorem ins_len (hi : i ≤ l.length) : (l.take i ++ [a] ++ l.drop i).length = l.length + 1 := by simp [List.length_take, List.length_drop]; omega
theorem idx_ins (hi : i ≤ l.length) (hp : p a = true) (h : l.any p = false) : idx p (l.take i ++ [a] ++ l.drop i) = ((i : Nat) : Int) := by
 refine idx_at (ins_at hi) hp (fun j y hj hy => ?_)
 rw [ins_lt hi hj] at hy
 rw [List.any_eq_false] at h
 simpa using h y (List.mem_of_getElem? hy)
theorem erase_ins (hi : i ≤ l.length) : (l.take i ++ [a] ++ l.drop i).eraseIdx i = l := by
 rw [List.eraseIdx_eq_take_drop_succ, ins_drop hi, List.append_assoc, List.take_append_of_le_length (by rw [List.length_take]; omega), List.take_take, Nat.min_self, List.take_append_drop]
theorem ins_erase (hi : l[i]? = some a) : (l.eraseIdx i).take i ++ [a] ++ (l.eraseIdx i).drop i = l := by
 have hlt := lt_of_at hi
 rw [List.eraseIdx_eq_take_drop_succ]
 rw [List.take_append_of_le_length (by rw [List.length_take]; omega), List.take_take, Nat.min_self]
 rw [List.drop_append_of_le_length (by rw [List.length_take]; omega), List.drop_eq_nil_of_le (by rw [List.length_take]; omega), List.nil_append]
 rw [List.getElem?_eq_getElem hlt] at hi; cases hi
 rw [List.append_assoc, List.singleton_append, List.getElem_cons_drop, List.take_append_drop]
theorem any_erase (h : ∀ (j : Nat) y, l[j]? = some y → p y = true → j = i) : (l.eraseIdx i).any p = false := by
 rw [List.any_eq_false]
 intro y hy hp
 obtain ⟨j, hj⟩ := List.getElem?_of_mem hy
 rw [List.getElem?_eraseIdx] at hj
 split at hj
 · have := h j y hj hp; omega
 · have := h (j + 1) y hj hp; omega
theorem idx_first {j : Nat} {y : α} (h0 : 0 ≤ idx p l) (hy : l[j]? = some y) (hp : p y = true) : (idx p l).toNat ≤ j := by
 unfold idx at h0 ⊢
 cases hf : l.findIdx? p with
 | none => rw [hf] at h0; simp at h0
 | some k =>
  rw [List.findIdx?_eq_some_iff_getElem] at hf
  obtain ⟨_, _, h3⟩ := hf
  show k ≤ j
  refine Nat.le_of_not_lt fun hlt => ?_
  have := h3 j hlt
  have hlt2 := lt_of_at hy
  rw [List.getElem?_eq_getElem hlt2] at hy; cases hy
  exact this hp
end
theorem suites_one {l : List Int} (h : suitesB l = true) {i j : Nat} {n : Int} (hi : l[i]? = some n) (hj : l[j]? = some n) : i = j := by
 unfold suitesB at h; rw [allI_iff] at h
 have key : ∀ {a b : Nat}, a < b → l[a]? = some n → l[b]? = some n → False := by
  intro a b hab ha hb
  have := h b (lt_of_at hb)
  unfold suiteAt at this
  rw [getD_at hb] at this
  simp only [Bool.and_eq_true, Bool.not_eq_true', List.any_eq_false] at this
  have := this.2 n (List.mem_of_getElem? (show (l.take b)[a]? = some n by rw [List.getElem?_take, if_pos hab]; exact ha))
  simp at this
 rcases Nat.lt_trichotomy i j with h1 | h1 | h1
 · exact (key h1 hi hj).elim
 · exact h1
 · exact (key h1 hj hi).elim
theorem posI_ins {l : List Int} {n : Int} (h : AscI l) : posI (insX l n) n = posI l n ∧ hasX (insX l n) n = true := by
 have h0 := posI_le l n
 have h1 : posI (insX l n) n = posI l n := by
  refine posI_eq (by rw [ins_len h0]; omega) (fun j y hj hy => ?_) (fun y hy => ?_)
  · rw [ins_lt h0 hj] at hy; exact posI_lt hj hy
  · rw [ins_at h0] at hy; cases hy; omega
 refine ⟨h1, ?_⟩
 unfold hasX; rw [h1, ins_at h0]; simp
theorem hasX_hit {l : List Int} {n : Int} (h : hasX l n = true) : l[posI l n]? = some n := by
 unfold hasX at h
 cases hh : l[posI l n]? with
 | none => rw [hh] at h; cases h
 | some y => rw [hh] at h; simp at h; rw [h]
theorem posI_del {l : List Int} {n : Int} (hs : AscI l) (h : hasX l n = true) : posI (l.eraseIdx (posI l n)) n = posI l n ∧ hasX (l.eraseIdx (posI l n)) n = false := by
 have hh := hasX_hit h
 have hlt := lt_of_at hh
 have hnext : ∀ y, (l.eraseIdx (posI l n))[posI l n]? = some y → n < y := by
  intro y hy
  rw [List.getElem?_eraseIdx, if_neg (by omega)] at hy
  exact ascI_lt hs (Nat.lt_succ_self _) hh hy
 have h1 : posI (l.eraseIdx (posI l n)) n = posI l n := by
  refine posI_eq (by rw [List.length_eraseIdx, if_pos hlt]; omega) (fun j y hj hy => ?_) (fun y hy => by have := hnext y hy; omega)
  rw [List.getElem?_eraseIdx, if_pos hj] at hy; exact posI_lt hj hy
 refine ⟨h1, ?_⟩
 unfold hasX; rw [h1]
 cases hh2 : (l.eraseIdx (posI l n))[posI l n]? with
 | none => rfl
 | some y => have := hnext y hh2; simp; omega
abbrev stepB (e : Ept) (c : Chg) (x : Ept) (b : Chg) : Prop := stepR x b = .ok (e, c) ∧ okCh b ∧ b.endpoint = c.endpoint
theorem okS {ep k n : Int} (hk : 1 ≤ k ∧ k ≤ 12) (h5 : k ≠ 5) : okCh ⟨ep, k, n, 0, zeroId⟩ := by
 refine ⟨hk, ?_⟩
 unfold leanB; simp only
 split
 · rfl
 · first | rfl | (rw [if_neg h5]; rfl)
theorem lean_s {ep k n at_ : Int} {x : Idn} (h : okCh ⟨ep, k, n, at_, x⟩) (h1 : k ≠ 1) (h5 : k ≠ 5) : at_ = 0 ∧ x = zeroId := by
 have := h.2
 unfold leanB at this; simp only at this
 rw [if_neg h1, if_neg h5, Bool.and_eq_true] at this
 exact ⟨by simpa using this.1, noneB_iff this.2⟩
theorem bit_back {n : Int} {f : Bool} (hn : 0 ≤ n ∧ n ≤ 1) (h : ¬ bitI f = n) : (0 ≤ bitI f ∧ bitI f ≤ 1) ∧ ¬ bitI (n == 1) = bitI f ∧ (bitI f == 1) = f ∧ bitI (n == 1) = n := by
 have : n = 0 ∨ n = 1 := by omega
 rcases this with rfl | rfl <;> cases f <;> simp_all [bitI]
/-- What is done is undone by what leads back. -/
theorem step_back {e : Ept} {c : Chg} {x : Ept} {b : Chg} (he : EptOk e) (hc : okCh c) (h : stepR e c = .ok (x, b)) : stepB e c x b := by
  obtain ⟨ep, k, n, at_, idn⟩ := c
  have hk : 1 ≤ k ∧ k ≤ 12 := hc.1
  have h0 := kinds12 hk
  rcases h0 with rfl | rfl | rfl | rfl | rfl | rfl | rfl | rfl | rfl | rfl | rfl | rfl
  · -- addSuite
    have hz : idn = zeroId := noneB_iff hc.2
    subst hz
    rw [stepR_1 rfl] at h
    split at h
    · cases h
    next hr =>
    split at h
    · cases h
    next hn =>
    injection h with h; obtain ⟨rfl, rfl⟩ := Prod.mk.inj h
    have hr2 : 0 ≤ at_ ∧ at_ ≤ (e.suites.length : Nat) := Classical.not_not.1 hr
    obtain ⟨i, rfl⟩ := Int.eq_ofNat_of_zero_le hr2.1
    have hi : i ≤ e.suites.length := by omega
    refine ⟨?_, okS (by omega) (by omega), rfl⟩
    rw [stepR_2 rfl]
    have hx : idx (fun y => n == y) (e.suites.take i ++ [n] ++ e.suites.drop i) = ((i : Nat) : Int) := idx_ins hi (by simp) (Bool.eq_false_iff.2 hn)
    have hs : ∀ {E : Ept}, E.suites = e.suites.take i ++ [n] ++ e.suites.drop i → sIdx E ⟨ep, 2, n, 0, zeroId⟩ = ((i : Nat) : Int) := fun hE => by unfold sIdx; rw [hE]; exact hx
    rw [hs rfl, if_neg (by omega)]
    show Except.ok (({ e with suites := (e.suites.take i ++ [n] ++ e.suites.drop i).eraseIdx i } : Ept), (⟨ep, 1, n, i, zeroId⟩ : Chg)) = _
    rw [erase_ins hi]
  · -- dropSuite
    obtain ⟨rfl, rfl⟩ := lean_s hc (by omega) (by omega)
    rw [stepR_2 rfl] at h
    split at h
    · cases h
    next hn =>
    injection h with h; obtain ⟨rfl, rfl⟩ := Prod.mk.inj h
    have hn' : ¬ idx (fun y => n == y) e.suites < 0 := hn
    obtain ⟨y, hy, hp, hlt⟩ := idx_hit (p := fun y => n == y) (l := e.suites) (by omega)
    have : n = y := by simpa using hp
    subst this
    show stepB e ⟨ep, 2, n, 0, zeroId⟩ { e with suites := e.suites.eraseIdx (idx (fun y => n == y) e.suites).toNat } ⟨ep, 1, n, idx (fun y => n == y) e.suites, zeroId⟩
    have hk0 : idx (fun y => n == y) e.suites = ((idx (fun y => n == y) e.suites).toNat : Int) := by omega
    clear hn h hp
    revert hn' hy hlt hk0
    generalize idx (fun y => n == y) e.suites = K
    intro hn' hlt hy hk0
    generalize K.toNat = i at hy hlt hk0
    subst hk0
    have hone : ∀ (j : Nat) z, e.suites[j]? = some z → (n == z) = true → j = i := fun j z hj hz => by
      have : n = z := by simpa using hz
      subst this; exact suites_one he.suites hj hy
    refine ⟨?_, ⟨⟨by show (1 : Int) ≤ 1; omega, by show (1 : Int) ≤ 12; omega⟩, rfl⟩, rfl⟩
    have hany : ((e.suites.eraseIdx i).any fun y => n == y) = false := any_erase hone
    have hlen : (e.suites.eraseIdx i).length = e.suites.length - 1 := by rw [List.length_eraseIdx, if_pos hlt]
    rw [stepR_1 rfl, if_neg (by
      show ¬ ¬ (0 ≤ ((i : Nat) : Int) ∧ ((i : Nat) : Int) ≤ ((e.suites.eraseIdx i).length : Nat))
      omega), if_neg (by
      show ¬ ((e.suites.eraseIdx i).any fun y => n == y) = true
      rw [hany]; decide)]
    show Except.ok (({ e with suites := (e.suites.eraseIdx i).take i ++ [n] ++ (e.suites.eraseIdx i).drop i } : Ept), (⟨ep, 2, n, 0, zeroId⟩ : Chg)) = _
    rw [ins_erase hy]
  · obtain ⟨rfl, rfl⟩ := lean_s hc (by omega) (by omega)
    rw [stepR_3 rfl] at h
    split at h
    · cases h
    next hn =>
    injection h with h; obtain ⟨rfl, rfl⟩ := Prod.mk.inj h
    refine ⟨?_, okS (k := 3) (by omega) (by omega), rfl⟩
    rw [stepR_3 rfl, if_neg (fun h => hn h.symm)]
  · obtain ⟨rfl, rfl⟩ := lean_s hc (by omega) (by omega)
    rw [stepR_4 rfl] at h
    split at h
    · cases h
    next hn =>
    injection h with h; obtain ⟨rfl, rfl⟩ := Prod.mk.inj h
    refine ⟨?_, okS (k := 4) (by omega) (by omega), rfl⟩
    rw [stepR_4 rfl, if_neg (fun h => hn h.symm)]
  · -- addIdentity
    have hz : n = 0 := by have := hc.2; unfold leanB at this; simpa using this
    subst hz
    rw [stepR_5 rfl] at h
    split at h
    · cases h
    next hr =>
    split at h
    · cases h
    next hn =>
    injection h with h; obtain ⟨rfl, rfl⟩ := Prod.mk.inj h
    have hr2 : 0 ≤ at_ ∧ at_ ≤ (e.ids.length : Nat) := Classical.not_not.1 hr
    obtain ⟨i, rfl⟩ := Int.eq_ofNat_of_zero_le hr2.1
    have hi : i ≤ e.ids.length := by omega
    have hn' : ¬ 0 ≤ keyIdx idn.keyId e.ids := hn
    have hany : (e.ids.any fun x => x.keyId == idn.keyId) = false := idx_lt0 (show keyIdx idn.keyId e.ids < 0 by omega)
    refine ⟨?_, okS (by omega) (by omega), rfl⟩
    have hx : keyIdx idn.keyId (e.ids.take i ++ [idn] ++ e.ids.drop i) = ((i : Nat) : Int) := idx_ins hi (by simp) hany
    have hd : ((e.ids.drop i).any fun x => x.keyId == idn.keyId) = false := by
      rw [List.any_eq_false] at hany ⊢; exact fun y hy => hany y (List.mem_of_mem_drop hy)
    rw [stepR_6 rfl]
    show (match (e.ids.take i ++ [idn] ++ e.ids.drop i)[(keyIdx idn.keyId (e.ids.take i ++ [idn] ++ e.ids.drop i)).toNat]? with
      | none => (Except.error 41 : Except Int (Ept × Chg))
      | some x => if keyIdx idn.keyId (e.ids.take i ++ [idn] ++ e.ids.drop i) < 0 then .error 41
        else if (((e.ids.take i ++ [idn] ++ e.ids.drop i).drop (keyIdx idn.keyId (e.ids.take i ++ [idn] ++ e.ids.drop i) + 1).toNat).any fun x => x.keyId == idn.keyId) = true then .error 5
        else .ok (({ e with ids := (e.ids.take i ++ [idn] ++ e.ids.drop i).eraseIdx (keyIdx idn.keyId (e.ids.take i ++ [idn] ++ e.ids.drop i)).toNat } : Ept), ⟨ep, 5, 0, keyIdx idn.keyId (e.ids.take i ++ [idn] ++ e.ids.drop i), x⟩)) = _
    rw [hx, Int.toNat_natCast, ins_at hi]
    show (if ((i : Nat) : Int) < 0 then _ else _) = _
    rw [if_neg (by omega), show (((i : Nat) : Int) + 1).toNat = i + 1 by omega, ins_drop hi, hd, erase_ins hi]
    rfl
  · -- dropIdentity
    obtain ⟨rfl, rfl⟩ := lean_s hc (by omega) (by omega)
    rw [stepR_6 rfl] at h
    split at h
    · cases h
    next x0 hx0 =>
    split at h
    · cases h
    next hn =>
    split at h
    · cases h
    next ht =>
    injection h with h; obtain ⟨rfl, rfl⟩ := Prod.mk.inj h
    have hx0' : e.ids[(keyIdx n e.ids).toNat]? = some x0 := hx0
    have hn' : ¬ keyIdx n e.ids < 0 := hn
    have ht' : ¬ ((e.ids.drop (keyIdx n e.ids + 1).toNat).any fun x => x.keyId == n) = true := ht
    obtain ⟨y, hy, hp, hlt⟩ := idx_hit (p := fun x : Idn => x.keyId == n) (l := e.ids) (by unfold keyIdx at hn'; omega)
    have hyx : y = x0 := by have : e.ids[(keyIdx n e.ids).toNat]? = some y := hy
                            rw [hx0'] at this; cases this; rfl
    subst hyx
    have hky : y.keyId = n := by simpa using hp
    have hfirst : ∀ (j : Nat) z, e.ids[j]? = some z → (z.keyId == n) = true → (keyIdx n e.ids).toNat ≤ j := fun j z hj hz => idx_first (p := fun x : Idn => x.keyId == n) (by unfold keyIdx at hn'; omega) hj hz
    have hk0 : keyIdx n e.ids = ((keyIdx n e.ids).toNat : Int) := by omega
    have hlt2 : (keyIdx n e.ids).toNat < e.ids.length := hlt
    show stepB e ⟨ep, 6, n, 0, zeroId⟩ { e with ids := e.ids.eraseIdx (keyIdx n e.ids).toNat } ⟨ep, 5, 0, keyIdx n e.ids, y⟩
    clear hn h hp ht hx0 hlt hy
    revert hk0 hfirst hlt2 ht' hx0' hn'
    generalize (keyIdx n e.ids) = K
    intro hn' ht' hx0' hfirst hk0 hlt2
    generalize K.toNat = i at hx0' hfirst hk0 hlt2
    subst hk0
    rw [show (((i : Nat) : Int) + 1).toNat = i + 1 by omega] at ht'
    refine ⟨?_, ⟨⟨by show (1 : Int) ≤ 5; omega, by show (5 : Int) ≤ 12; omega⟩, rfl⟩, rfl⟩
    have hany : ((e.ids.eraseIdx i).any fun x => x.keyId == y.keyId) = false := by
      refine any_erase (fun j z hj hz => ?_)
      rw [hky] at hz
      have h1 := hfirst j z hj hz
      rcases Nat.lt_or_eq_of_le h1 with h2 | h2
      · exfalso; apply ht'; rw [List.any_eq_true]
        refine ⟨z, List.mem_of_getElem? (i := j - (i + 1)) ?_, hz⟩
        rw [List.getElem?_drop, show i + 1 + (j - (i + 1)) = j by omega]; exact hj
      · exact h2.symm
    rw [stepR_5 rfl, if_neg (by
      show ¬ ¬ (0 ≤ ((i : Nat) : Int) ∧ ((i : Nat) : Int) ≤ ((e.ids.eraseIdx i).length : Nat))
      rw [List.length_eraseIdx, if_pos hlt2]; omega), if_neg (by
      show ¬ 0 ≤ keyIdx y.keyId (e.ids.eraseIdx i)
      have := idx_none' hany
      unfold keyIdx; omega)]
    show Except.ok (({ e with ids := (e.ids.eraseIdx i).take i ++ [y] ++ (e.ids.eraseIdx i).drop i } : Ept), (⟨ep, 6, y.keyId, 0, zeroId⟩ : Chg)) = _
    rw [ins_erase hx0', hky]
  · obtain ⟨rfl, rfl⟩ := lean_s hc (by omega) (by omega)
    have hs := ascI_of he.anc
    rw [stepR_7 rfl] at h
    split at h
    · cases h
    next hn =>
    injection h with h; obtain ⟨rfl, rfl⟩ := Prod.mk.inj h
    have hp := posI_ins (n := n) hs
    refine ⟨?_, okS (by omega) (by omega), rfl⟩
    rw [stepR_8 rfl, if_pos (show hasX (insX e.anchors n) n = true from hp.2)]
    show Except.ok (({ e with anchors := (insX e.anchors n).eraseIdx (posI (insX e.anchors n) n) } : Ept), (⟨ep, 7, n, 0, zeroId⟩ : Chg)) = _
    rw [hp.1, erase_ins (posI_le _ _)]
  · obtain ⟨rfl, rfl⟩ := lean_s hc (by omega) (by omega)
    have hs := ascI_of he.anc
    rw [stepR_8 rfl] at h
    split at h
    next hn =>
      injection h with h; obtain ⟨rfl, rfl⟩ := Prod.mk.inj h
      have hn' : hasX e.anchors n = true := hn
      have hp := posI_del (n := n) hs hn'
      refine ⟨?_, okS (by omega) (by omega), rfl⟩
      rw [stepR_7 rfl, if_neg (show ¬ hasX (e.anchors.eraseIdx (posI e.anchors n)) n = true by rw [hp.2]; decide)]
      show Except.ok (({ e with anchors := insX (e.anchors.eraseIdx (posI e.anchors n)) n } : Ept), (⟨ep, 8, n, 0, zeroId⟩ : Chg)) = _
      unfold insX
      rw [hp.1, ins_erase (hasX_hit hn')]
    · cases h
  · obtain ⟨rfl, rfl⟩ := lean_s hc (by omega) (by omega)
    have hs := ascI_of he.hash
    rw [stepR_9 rfl] at h
    split at h
    · cases h
    next hn =>
    injection h with h; obtain ⟨rfl, rfl⟩ := Prod.mk.inj h
    have hp := posI_ins (n := n) hs
    refine ⟨?_, okS (by omega) (by omega), rfl⟩
    rw [stepR_10 rfl, if_pos (show hasX (insX e.hashes n) n = true from hp.2)]
    show Except.ok (({ e with hashes := (insX e.hashes n).eraseIdx (posI (insX e.hashes n) n) } : Ept), (⟨ep, 9, n, 0, zeroId⟩ : Chg)) = _
    rw [hp.1, erase_ins (posI_le _ _)]
  · obtain ⟨rfl, rfl⟩ := lean_s hc (by omega) (by omega)
    have hs := ascI_of he.hash
    rw [stepR_10 rfl] at h
    split at h
    next hn =>
      injection h with h; obtain ⟨rfl, rfl⟩ := Prod.mk.inj h
      have hn' : hasX e.hashes n = true := hn
      have hp := posI_del (n := n) hs hn'
      refine ⟨?_, okS (by omega) (by omega), rfl⟩
      rw [stepR_9 rfl, if_neg (show ¬ hasX (e.hashes.eraseIdx (posI e.hashes n)) n = true by rw [hp.2]; decide)]
      show Except.ok (({ e with hashes := insX (e.hashes.eraseIdx (posI e.hashes n)) n } : Ept), (⟨ep, 10, n, 0, zeroId⟩ : Chg)) = _
      unfold insX
      rw [hp.1, ins_erase (hasX_hit hn')]
    · cases h
  · obtain ⟨rfl, rfl⟩ := lean_s hc (by omega) (by omega)
    rw [stepR_11 rfl] at h
    split at h
    · cases h
    next hr =>
    split at h
    · cases h
    next hn =>
    injection h with h; obtain ⟨rfl, rfl⟩ := Prod.mk.inj h
    have hb := bit_back (Classical.not_not.1 hr) hn
    refine ⟨?_, okS (k := 11) (by omega) (by omega), rfl⟩
    rw [stepR_11 rfl, if_neg (show ¬ ¬ (0 ≤ bitI e.fall ∧ bitI e.fall ≤ 1) from fun h => h hb.1), if_neg (show ¬ bitI (n == 1) = bitI e.fall from hb.2.1)]
    show Except.ok (({ e with fall := (bitI e.fall == 1) } : Ept), (⟨ep, 11, bitI (n == 1), 0, zeroId⟩ : Chg)) = _
    rw [hb.2.2.1, hb.2.2.2]
  · obtain ⟨rfl, rfl⟩ := lean_s hc (by omega) (by omega)
    rw [stepR_12 rfl] at h
    split at h
    · cases h
    next hr =>
    split at h
    · cases h
    next hn =>
    injection h with h; obtain ⟨rfl, rfl⟩ := Prod.mk.inj h
    have hb := bit_back (Classical.not_not.1 hr) hn
    refine ⟨?_, okS (k := 12) (by omega) (by omega), rfl⟩
    rw [stepR_12 rfl, if_neg (show ¬ ¬ (0 ≤ bitI e.own ∧ bitI e.own ≤ 1) from fun h => h hb.1), if_neg (show ¬ bitI (n == 1) = bitI e.own from hb.2.1)]
    show Except.ok (({ e with own := (bitI e.own == 1) } : Ept), (⟨ep, 12, bitI (n == 1), 0, zeroId⟩ : Chg)) = _
    rw [hb.2.2.1, hb.2.2.2]

theorem done_back {e : Ept} {c : Chg} {x : Ept} {b : Chg} (h : doneR e c = (x, b, 0)) : doneR x b = (e, c, 0) ∧ b.endpoint = c.endpoint := by
 obtain ⟨h1, h2, h3, h4⟩ := doneR_inv h
 have h5 := step_back h1 h2 h3
 exact ⟨doneR_ok (eptB_iff.2 h4) h5.2.1 h5.1 (eptB_iff.2 h1), h5.2.2⟩
abbrev u8R : List Pr := [anyK .u8]
abbrev bts (m : Nat) : Pr := slice 1 (List.replicate m u8R)
abbrev bytesE (B : Nat) : Pr := Cp.ex fun m : Nat => fact (m ≤ B) (bts m)
abbrev anyB : Pr := Cp.ex fun b : Bool => bool b
abbrev rowQ (q : Pr) : List Pr := [anyK .i64, bytesE 1000, anyB, q]
abbrev elemsE (row : List Pr) : Pr := Cp.ex fun m : Nat => fact (m ≤ 20) (slice 4 (List.replicate m row))
abbrev depthE (D : Nat) : Pr := Cp.ex fun d : Int => fact (0 ≤ d ∧ d ≤ (D : Nat)) (int d)
theorem rep_at {r : List Pr} {m k : Nat} (h : k < m) : (List.replicate m r)[((k : Nat) : Int).toNat]? = some r := by rw [Int.toNat_natCast, List.getElem?_replicate, if_pos h]
theorem rep_one {r : List Pr} {m : Nat} : List.replicate m r ++ [r] = List.replicate (m + 1) r := by rw [List.replicate_succ']
theorem rep_add {r : List Pr} {m k : Nat} : List.replicate m r ++ List.replicate k r = List.replicate (m + k) r := by rw [List.replicate_append_replicate]
theorem LeL.refl : ∀ l : List Pr, LeL l l
 | [] => trivial
 | _ :: l => ⟨Pr.le_refl _, LeL.refl l⟩
/-- Rows that read less exactly. -/
theorem slice_le {sz : Nat} {rows rows' : List (List Pr)} (hl : rows.length = rows'.length) (h : ∀ (i : Nat) r r', rows[i]? = some r → rows'[i]? = some r' → r.length = r'.length ∧ ∀ (j : Nat) p p', r[j]? = some p → r'[j]? = some p' → Pr.le p p') : Pr.le (slice sz rows) (slice sz rows') := by
 rintro M w v ⟨a, cap, h1, h2, h3, h4, h5⟩
 refine ⟨a, cap, by rw [← hl]; exact h1, by rw [← hl]; exact h2, h3, h4, fun i row hr => ?_⟩
 have hi : i < rows.length := by rw [hl]; exact lt_of_at hr
 have hr0 := List.getElem?_eq_getElem hi
 obtain ⟨g1, g2⟩ := h i _ _ hr0 hr
 obtain ⟨k1, ad, k2, k3⟩ := h5 i _ hr0
 refine ⟨by rw [← g1]; exact k1, ad, k2, fun j p' hp' => ?_⟩
 have hj : j < rows[i].length := by rw [g1]; exact lt_of_at hp'
 have hp := List.getElem?_eq_getElem hj
 obtain ⟨u, c1, c2, c3, c4⟩ := k3 j _ hp
 exact ⟨u, c1, c2, c3, g2 j _ _ hp hp' _ _ _ c4⟩
theorem slice_rep {sz : Nat} {rows : List (List Pr)} {r : List Pr} (h : ∀ q ∈ rows, q.length = r.length ∧ ∀ (j : Nat) p p', q[j]? = some p → r[j]? = some p' → Pr.le p p') : Pr.le (slice sz rows) (slice sz (List.replicate rows.length r)) :=
 slice_le (by simp) fun i q q' hq hq' => by
  rw [List.getElem?_replicate, if_pos (lt_of_at hq)] at hq'
  cases hq'
  exact h q (List.mem_of_getElem? hq)
theorem bts_of {β : Type} {l : List β} {f : β → Int} : Pr.le (slice 1 (l.map fun x => [is (.int .u8 (f x))])) (bts l.length) := by
 have := slice_rep (sz := 1) (rows := l.map fun x => [is (.int .u8 (f x))]) (r := u8R) (by
  intro q hq
  obtain ⟨x, _, rfl⟩ := List.mem_map.1 hq
  refine ⟨rfl, fun j p p' hp hp' => ?_⟩
  cases j with
  | zero => simp at hp hp'; subst hp; subst hp'; exact is_anyK _ _
  | succ j => simp at hp)
 rwa [List.length_map] at this
theorem bytesE_in {B m : Nat} {p : Pr} (h : m ≤ B) (hp : Pr.le p (bts m)) : Pr.le p (bytesE B) := ex_in m (fact_in h hp)
/-- What an element is, cell by cell. -/
theorem Fun.rowQ {P : Program} {f : FuncId} {row : List Pr} {res : Pr} (h : ∀ (t : Int) (b : Nat) (n : Bool) (m : Nat), b ≤ 1000 → m ≤ 20 → Fun P f [agg [int t, bts b, bool n, slice 4 (List.replicate m row)]] res) : Fun P f [agg (rowQ (elemsE row))] res := by
 refine ⟨(h 0 0 false 0 (by omega) (by omega)).1, fun M w vs hb hv => ?_⟩
 match vs, hv with
 | [u0], hv1 =>
  obtain ⟨⟨cs, rfl, ho, hcs⟩, _⟩ := hv1
  match cs, hcs with
  | [c0, c1, c2, c3], hc =>
   obtain ⟨⟨t, h0⟩, ⟨b, hb1, h1⟩, ⟨n, h2⟩, ⟨m, hm1, h3⟩, _⟩ := hc
   exact (h t b n m hb1 hm1).2 M w _ hb ⟨⟨_, rfl, ho, h0, h1, h2, h3, trivial⟩, trivial⟩
theorem Fun.rowQ0 {P : Program} {f : FuncId} {res : Pr} (h : ∀ (t : Int) (b : Nat) (n : Bool), b ≤ 1000 → Fun P f [agg [int t, bts b, bool n, slice 4 []]] res) : Fun P f [agg [anyK .i64, bytesE 1000, anyB, slice 4 []]] res := by
 refine ⟨(h 0 0 false (by omega)).1, fun M w vs hb hv => ?_⟩
 match vs, hv with
 | [u0], hv1 =>
  obtain ⟨⟨cs, rfl, ho, hcs⟩, _⟩ := hv1
  match cs, hcs with
  | [c0, c1, c2, c3], hc =>
   obtain ⟨⟨t, h0⟩, ⟨b, hb1, h1⟩, ⟨n, h2⟩, h3, _⟩ := hc
   exact (h t b n hb1).2 M w _ hb ⟨⟨_, rfl, ho, h0, h1, h2, h3, trivial⟩, trivial⟩

theorem w_rtag {n : Int}  : Fun prog 284 [int n] (bool (decide (1 ≤ n) && decide (n ≤ 255) && (n.tmod 32 != 31))) := by
 refine fo func284 rfl ⟨rfl, rfl⟩ fun M0 w0 => ?_
 refine ac ?_
 refine ag ?_ ?_ <;> intro h1 q1
 refine ag ?_ ?_ <;> intro h2 q2
 refine cym h2 rfl (cy h2 rfl (ok_rem rfl (vl rfl) (vl rfl) (by omega)) ?_)
 refine a2 ?_
 · refine bool_eq ?_; simp_all
 refine a2 ?_
 · refine bool_eq ?_; simp_all; omega
 refine a2 ?_
 · refine bool_eq ?_; simp_all; omega
theorem w_rformed {t : Int} {b : Nat} {n : Bool} {m : Nat} {q : Pr}  (hb : b ≤ 1000) (hm : m ≤ 20) (ih : m = 0 ∨ Fun prog 247 [agg (rowQ q)] (anyB)) : Fun prog 247 [agg [int t, bts b, bool n, slice 4 (List.replicate m (rowQ q))]] (anyB) := by
 refine fo func247 rfl ⟨rfl, rfl⟩ fun M0 w0 => ?_
 have hlr : (List.replicate m (rowQ q)).length = m := List.length_replicate
 have hlb : (List.replicate b u8R).length = b := List.length_replicate
 refine a2 ?_
 refine co rfl (kc1 (w_rtag) rfl rfl) ?_
 refine ag ?_ ?_ <;> intro h1 q1
 refine ac ?_
 refine wk2 1 38 rfl ?_
 refine a2 ?_
 · exact ex_in _ (Lr)
 refine ac ?_
 refine cy h1 rfl (ok_quo rfl (vl rfl) (vl rfl) (by omega)) (cy h1 rfl (ok_rem rfl (vl rfl) (vl rfl) (by omega)) (cy h1 rfl (ki rfl rfl rfl rfl) (cy h1 rfl (ok_neb rfl underlying4 (vl rfl) (vl rfl)) ?_)))
 refine ag ?_ ?_ <;> intro h2 q2
 refine ac ?_
 refine wk2 1 38 rfl ?_
 refine a2 ?_
 · exact ex_in _ (Lr)
 refine ag ?_ ?_ <;> intro h3 q3
 refine ac ?_
 refine cy h3 rfl (ok_len rfl underlying198 (vl rfl)) ?_
 refine ag ?_ ?_ <;> intro h4 q4
 refine ac ?_
 refine wk2 1 38 rfl ?_
 refine a2 ?_
 · exact ex_in _ (Lr)
 refine ag ?_ ?_ <;> intro h5 q5
 refine ac ?_
 refine cy h5 rfl (ok_len rfl underlying221 (vl rfl)) ?_
 refine ac ?_
 refine wk2 1 38 rfl ?_
 refine Tr.cn rfl ?_ ?_ <;> intro h6 q6
 refine a2 ?_
 · exact ex_in _ (Lr)
 refine a2 ?_
 refine Tr.block (Tr.loopw [(1, _)] ⟨ke rfl, trivial⟩ (fun k : Nat => [(3, int ((k : Nat) : Int))]) (fun k : Nat => k ≤ ((List.replicate m (rowQ q)).length)) (fun k : Nat => ((List.replicate m (rowQ q)).length) - k) 0 (Nat.zero_le _) ⟨ke rfl, trivial⟩ ?_)
 rintro k hle_k
 refine ac ?_
 refine co rfl (ok_len rfl underlying221 (vl rfl)) ?_
 refine an ?_ ?_ <;> intro h7 q7
 have hk_k : k < ((List.replicate m (rowQ q)).length) := lt_of_dec h7
 have hkm : k < m := by simpa using hk_k
 have ih2 := ih.resolve_left (by omega)
 refine ac ?_
 refine ap ?_
 refine tp rfl (ok_indexAddr rfl underlying221 sz223 (vl rfl) (vl rfl) (by omega) (rep_at hkm)) (tp rfl (ok_loadA rfl agg223 sz223 (vl rfl) rfl rfl) (tp rfl (kc1 (ih2) rfl rfl) ?_))
 refine TO.ex 51 rfl (fun z51 => ?_)
 refine ap ?_
 · repeat' first | exact ex_in _ (Lr) | exact Fin.fam_same (k + 1) ⟨hk_k, by omega⟩ ⟨⟨_, rfl, int_succ k⟩, ke rfl, trivial⟩ | refine ac ?_ | (refine Tr.cn rfl ?_ ?_ <;> intro h q)
 have he_k : k = ((List.replicate m (rowQ q)).length) := by have := ge_of_dec h7; omega
 refine a3 ?_
 · exact ex_in _ (Lr)
 refine ac ?_
 refine wk2 1 38 rfl ?_
 refine a2 ?_
 refine Tr.block (Tr.loopw [(1, _)] ⟨ke rfl, trivial⟩ (fun k : Nat => [(3, int ((k : Nat) : Int))]) (fun k : Nat => k ≤ ((List.replicate m (rowQ q)).length)) (fun k : Nat => ((List.replicate m (rowQ q)).length) - k) 0 (Nat.zero_le _) ⟨ke rfl, trivial⟩ ?_)
 rintro k hle_k
 refine ac ?_
 refine co rfl (ok_len rfl underlying221 (vl rfl)) ?_
 refine an ?_ ?_ <;> intro h9 q9
 have hk_k : k < ((List.replicate m (rowQ q)).length) := lt_of_dec h9
 have hkm : k < m := by simpa using hk_k
 have ih2 := ih.resolve_left (by omega)
 refine ac ?_
 refine ap ?_
 refine tp rfl (ok_indexAddr rfl underlying221 sz223 (vl rfl) (vl rfl) (by omega) (rep_at hkm)) (tp rfl (ok_loadA rfl agg223 sz223 (vl rfl) rfl rfl) (tp rfl (kc1 (ih2) rfl rfl) ?_))
 refine TO.ex 51 rfl (fun z51 => ?_)
 refine ap ?_
 · repeat' first | exact ex_in _ (Lr) | exact Fin.fam_same (k + 1) ⟨hk_k, by omega⟩ ⟨⟨_, rfl, int_succ k⟩, ke rfl, trivial⟩ | refine ac ?_ | (refine Tr.cn rfl ?_ ?_ <;> intro h q)
 have he_k : k = ((List.replicate m (rowQ q)).length) := by have := ge_of_dec h9; omega
 refine a3 ?_
 · exact ex_in _ (Lr)
 refine ag ?_ ?_ <;> intro h11 q11
 refine ac ?_
 refine cy h11 rfl (ok_len rfl underlying221 (vl rfl)) ?_
 refine ac ?_
 refine wk2 1 38 rfl ?_
 refine Tr.cn rfl ?_ ?_ <;> intro h12 q12
 refine a2 ?_
 · exact ex_in _ (Lr)
 refine a2 ?_
 refine Tr.block (Tr.loopw [(1, _)] ⟨ke rfl, trivial⟩ (fun k : Nat => [(3, int ((k : Nat) : Int))]) (fun k : Nat => k ≤ ((List.replicate m (rowQ q)).length)) (fun k : Nat => ((List.replicate m (rowQ q)).length) - k) 0 (Nat.zero_le _) ⟨ke rfl, trivial⟩ ?_)
 rintro k hle_k
 refine ac ?_
 refine co rfl (ok_len rfl underlying221 (vl rfl)) ?_
 refine an ?_ ?_ <;> intro h13 q13
 have hk_k : k < ((List.replicate m (rowQ q)).length) := lt_of_dec h13
 have hkm : k < m := by simpa using hk_k
 have ih2 := ih.resolve_left (by omega)
 refine ac ?_
 refine ap ?_
 refine tp rfl (ok_indexAddr rfl underlying221 sz223 (vl rfl) (vl rfl) (by omega) (rep_at hkm)) (tp rfl (ok_loadA rfl agg223 sz223 (vl rfl) rfl rfl) (tp rfl (kc1 (ih2) rfl rfl) ?_))
 refine TO.ex 51 rfl (fun z51 => ?_)
 refine ap ?_
 · repeat' first | exact ex_in _ (Lr) | exact Fin.fam_same (k + 1) ⟨hk_k, by omega⟩ ⟨⟨_, rfl, int_succ k⟩, ke rfl, trivial⟩ | refine ac ?_ | (refine Tr.cn rfl ?_ ?_ <;> intro h q)
 have he_k : k = ((List.replicate m (rowQ q)).length) := by have := ge_of_dec h13; omega
 refine a3 ?_
 · exact ex_in _ (Lr)
 refine ac ?_
 refine wk2 1 38 rfl ?_
 refine a2 ?_
 refine Tr.block (Tr.loopw [(1, _)] ⟨ke rfl, trivial⟩ (fun k : Nat => [(3, int ((k : Nat) : Int))]) (fun k : Nat => k ≤ ((List.replicate m (rowQ q)).length)) (fun k : Nat => ((List.replicate m (rowQ q)).length) - k) 0 (Nat.zero_le _) ⟨ke rfl, trivial⟩ ?_)
 rintro k hle_k
 refine ac ?_
 refine co rfl (ok_len rfl underlying221 (vl rfl)) ?_
 refine an ?_ ?_ <;> intro h15 q15
 have hk_k : k < ((List.replicate m (rowQ q)).length) := lt_of_dec h15
 have hkm : k < m := by simpa using hk_k
 have ih2 := ih.resolve_left (by omega)
 refine ac ?_
 refine ap ?_
 refine tp rfl (ok_indexAddr rfl underlying221 sz223 (vl rfl) (vl rfl) (by omega) (rep_at hkm)) (tp rfl (ok_loadA rfl agg223 sz223 (vl rfl) rfl rfl) (tp rfl (kc1 (ih2) rfl rfl) ?_))
 refine TO.ex 51 rfl (fun z51 => ?_)
 refine ap ?_
 · repeat' first | exact ex_in _ (Lr) | exact Fin.fam_same (k + 1) ⟨hk_k, by omega⟩ ⟨⟨_, rfl, int_succ k⟩, ke rfl, trivial⟩ | refine ac ?_ | (refine Tr.cn rfl ?_ ?_ <;> intro h q)
 have he_k : k = ((List.replicate m (rowQ q)).length) := by have := ge_of_dec h15; omega
 refine a3 ?_
 · exact ex_in _ (Lr)
theorem w_rdepth {t : Int} {b : Nat} {n : Bool} {m : Nat} {q : Pr} {D : Nat}  (hb : b ≤ 1000) (hm : m ≤ 20) (hD : D ≤ 1000) (ih : m = 0 ∨ Fun prog 248 [agg (rowQ q)] (depthE D)) : Fun prog 248 [agg [int t, bts b, bool n, slice 4 (List.replicate m (rowQ q))]] (depthE (D + 1)) := by
 refine Fun.of func248 rfl rfl (by exact Nb rfl) fun M0 w0 => ?_
 have hlr : (List.replicate m (rowQ q)).length = m := List.length_replicate
 have hlb : (List.replicate b u8R).length = b := List.length_replicate
 refine Tr.seq (Tr.reg0 (co rfl (ok_box rfl (Va rfl)) (cm rfl (Ch.nil (Fin.go (Tr.seq (Tr.reg0 (cm rfl (Ch.nil (Fin.go (Tr.seq (Tr.seq (Tr.reg0 ?_)))))))))))))
 refine cm rfl (Ch.nil (Fin.go (Tr.block (Tr.loopw [(1, _)] ⟨ke rfl, trivial⟩ (fun k : Nat => [(4, int ((k : Nat) : Int)), (3, depthE D)]) (fun k : Nat => k ≤ ((List.replicate m (rowQ q)).length)) (fun k : Nat => ((List.replicate m (rowQ q)).length) - k) 0 (Nat.zero_le _) ⟨ke rfl, ⟨_, rfl, ex_in 0 (fact_in (by omega) (Lr))⟩, trivial⟩ ?_))))
 rintro k hle_k
 refine Tr.seq (Tr.seq (Tr.reg0 (cm rfl (co rfl (kfa rfl fo223_3 rfl rfl) (co rfl (kl1 rfl one221 rfl) (co rfl (ok_len rfl underlying221 (vl rfl)) (co rfl (ki rfl rfl rfl rfl) (Ch.nil (Fin.go ?_)))))))))
 refine Tr.cn rfl ?_ ?_ <;> intro h1 q1
 have hk_k : k < ((List.replicate m (rowQ q)).length) := lt_of_dec h1
 have hkm : k < m := by simpa using hk_k
 have ih2 := ih.resolve_left (by omega)
 refine Tr.skip (Fin.go (Tr.seq (Tr.block (Tr.regT (tm rfl ?_)))))
 refine TO.ex 12 rfl (fun z12 => TO.fact 12 rfl fun hz12 => ?_)
 refine tp rfl (kfa rfl fo223_3 rfl rfl) (tp rfl (kl1 rfl one221 rfl) (tm rfl (tp rfl (ok_indexAddr rfl underlying221 sz223 (vl rfl) (vl rfl) (by omega) (rep_at hkm)) (tp rfl (ok_loadA rfl agg223 sz223 (vl rfl) rfl rfl) (tp rfl (ok_call rfl (ih2) ⟨ke rfl, trivial⟩) ?_)))))
 refine TO.ex 18 rfl (fun z18 => TO.fact 18 rfl fun hz18 => ?_)
 refine tp rfl (ok_max rfl (vl rfl) (vl rfl)) (tm rfl (TO.nil (Fin.block (Fin.go (wk3 1 3 4 rfl (Tr.reg0 (cm rfl (cad rfl rfl rfl rfl (by omega) (cm rfl (Ch.nil (Fin.fam_same (k + 1) ⟨hk_k, by omega⟩ ⟨⟨_, rfl, int_succ k⟩, ⟨_, rfl, ex_in _ (fact_in (by omega) (Lr))⟩, ke rfl, trivial⟩)))))))))))
 have he_k : k = ((List.replicate m (rowQ q)).length) := by have := ge_of_dec h1; omega
 refine Tr.exit (Fin.then_exit (Fin.then_exit (Fin.block_here (Fin.go (Tr.seq (Tr.regT (tm rfl ?_)))))))
 refine TO.ex 20 rfl (fun z20 => TO.fact 20 rfl fun hz20 => ?_)
 refine tp rfl (ok_add rfl (vl rfl) (vl rfl) ?hin) ?_; case hin => unfold InI; omega
 refine tm rfl (TO.nil (Fin.go (Tr.ret (Fin.ret1 rfl (OutW.bse _ _) rfl ?_))))
 · exact ex_in _ (fact_in (by omega) (Lr))
/-- How many digits to the base 256. -/
def digC (n : Nat) : Nat := if h : n = 0 then 0 else 1 + digC (n / 256)
termination_by n
decreasing_by omega
theorem digC_zero : digC 0 = 0 := by unfold digC; simp
theorem digC_pos {n : Nat} (h : 0 < n) : digC n = 1 + digC (n / 256) := by conv => lhs; unfold digC; rw [dif_neg (by omega)]
theorem digC_le : ∀ (n : Nat), digC n ≤ n := by
 intro n
 induction n using Nat.strongRecOn with
 | _ n ih =>
  rcases Nat.eq_zero_or_pos n with h | h
  · subst h; rw [digC_zero]; omega
  · rw [digC_pos h]; have := ih (n / 256) (by omega); omega
def lenC (n : Nat) : Nat := if n < 128 then 1 else 1 + digC n
theorem lenC_le (n : Nat) : lenC n ≤ n + 1 := by unfold lenC; have := digC_le n; split <;> omega
theorem bts_one (k : Int) : Pr.le (slice 1 [[is (.int .u8 k)]]) (bts 1) := bts_of (l := [()]) (f := fun _ => k)

theorem w_rlength {n : Nat} (hn : n ≤ 100000000) : Fun prog 285 [int ((n : Nat) : Int)] (bts (lenC n)) := by
 refine fo func285 rfl ⟨rfl, rfl⟩ fun M0 w0 => ?_
 refine ac ?_
 refine an ?_ ?_ <;> intro h1 q1
 refine ac ?_
 refine co rfl (ok_conv rfl underlying3 underlying5 (vl rfl)) (co rfl (ok_buildSlice (xs := [.tmp 7]) (rows := [u8R]) rfl rfl underlying198 sz5 z5 rfl (by decide) ⟨⟨(by exact rfl), VL.le (vl rfl) (Pr.le_trans (is_anyK _ _) (one_cellsP _))⟩, trivial⟩ (by decide)) ?_)
 refine a2 ?_
 · refine Pr.le_trans (full_le _ _) (Pr.le_of_eq ?_); unfold lenC; rw [if_pos (by omega)]; rfl
 refine a2 ?_
 refine Tr.seq (Tr.block (Tr.addnil 5 1 (Tr.loopD2V1 [] trivial (fun (k : Nat) (acc : Nat) v => [(0, int ((k : Nat) : Int)), (3, andIs v (bts acc))]) (fun (k : Nat) (acc : Nat) v => Hp M0 w0 noS ([appRes 5 1 v])) (fun (k : Nat) (acc : Nat) => digC k + acc = digC n ∧ k ≤ n) (fun (k : Nat) (acc : Nat) => k) (n) (0) (.slice none 0 0) (⟨by omega, by omega⟩) ⟨ke rfl, ⟨_, rfl, own_nil rfl⟩, trivial⟩ (fun _ _ h => h) ?_)))
 rintro k acc v ⟨hk1, hk2⟩
 refine an ?_ ?_ <;> intro h2 q2
 have hk0 : 0 < k := by have := Nrm.nrm h2; omega
 have hdg := digC_pos hk0
 have hle := digC_le n
 refine ac ?_
 refine ap ?_
 refine tp rfl (ok_rem rfl (vl rfl) (vl rfl) (by omega)) (tp rfl (ok_conv rfl underlying3 underlying5 (vl rfl)) (tp rfl (ok_buildSlice (xs := [.tmp 13]) (rows := [u8R]) rfl rfl underlying198 sz5 z5 rfl (by decide) ⟨⟨(by exact rfl), VL.le (vl rfl) (Pr.le_trans (is_anyK _ _) (one_cellsP _))⟩, trivial⟩ (by decide)) ?_))
 refine tm rfl (TO.pad ?_)
 refine TO.efs 0 rfl rfl (by decide) (eApp rfl rfl rfl rfl underlying198 sz5 by5 z5 (Kf rfl) (Kb rfl) (appR_full (by exact List.Mem.head _) (vl rfl))) (fun v1 => ?_)
 refine ap ?_
 refine ac ?_
 refine co rfl (ok_quo rfl (vl rfl) (vl rfl) (by omega)) ?_
 refine ac ?_
 refine Fin.drop 1 ?_
 exact Fin.famD2V1 (k / 256) (acc + 1) v1 (⟨⟨by omega, by omega⟩, by omega⟩) ⟨⟨_, rfl, int_eq (by rw [Int.tdiv_eq_ediv_of_nonneg (by omega), wrap_in (by unfold InI; omega)]; omega)⟩, ⟨_, rfl, own_le (by rw [show ([u8R] : List (List Pr)) = List.replicate 1 u8R from rfl, rep_add, Nat.add_comm])⟩, trivial⟩ (fun _ _ h => h)
 have hk0 : k = 0 := by have := Nrm.nrm h2; omega
 subst hk0
 have hle := digC_le n
 rw [digC_zero] at hk1
 refine ac ?_
 refine ap ?_
 refine tp rfl (ok_len rfl underlying198 (Kb rfl)) (tp rfl (ki rfl rfl rfl rfl) (tp rfl (ok_conv rfl underlying3 underlying5 (vl rfl)) (tp rfl (ok_buildSlice (xs := [.tmp 22]) (rows := [u8R]) rfl rfl underlying198 sz5 z5 rfl (by decide) ⟨⟨(by exact rfl), VL.le (vl rfl) (Pr.le_trans (is_anyK _ _) (one_cellsP _))⟩, trivial⟩ (by decide)) ?_)))
 refine tm rfl (TO.pad ?_)
 refine TO.efs 0 rfl rfl (by decide) (eApp rfl rfl rfl rfl underlying198 sz5 by5 z5 (Kf rfl) (Kb rfl) (appR_full (by exact List.Mem.head _) (vl rfl))) (fun v2 => ?_)
 refine ap ?_
 refine ac ?_
 · refine Pr.le_trans (andIs_le _ _) (Pr.le_of_eq ?_); unfold lenC; rw [if_neg (by omega), show ([u8R] : List (List Pr)) = List.replicate 1 u8R from rfl, rep_add, show acc = digC n by omega]
theorem w_rput {t : Int} {b : Nat} {n : Bool} {m : Nat} {q : Pr} {B : Nat}  (hb : b ≤ 1000) (hm : m ≤ 20) (hB : B ≤ 1000000) (ih : m = 0 ∨ Fun prog 249 [agg (rowQ q)] (bytesE B)) : Fun prog 249 [agg [int t, bts b, bool n, slice 4 (List.replicate m (rowQ q))]] (bytesE (2 * (1000 + 20 * B) + 2)) := by
 refine fo func249 rfl ⟨rfl, rfl⟩ fun M0 w0 => ?_
 have hlr : (List.replicate m (rowQ q)).length = m := List.length_replicate
 have hlb : (List.replicate b u8R).length = b := List.length_replicate
 refine ac ?_
 refine ap ?_
 refine TO.pad ?_
 refine TO.efs 0 rfl rfl (by decide) (eApp rfl rfl rfl rfl underlying198 sz5 by5 z5 (Kf rfl) (vl rfl) (appR_full (by exact List.Mem.head _) (vl rfl))) (fun v1 => ?_)
 refine ap ?_
 refine ac ?_
 refine Tr.block (Tr.loopD2V1 [(1, _)] ⟨ke rfl, trivial⟩ (fun (k : Nat) (acc : Nat) v => [(4, int ((k : Nat) : Int)), (3, andIs v (bts acc))]) (fun (k : Nat) (acc : Nat) v => Hp M0 w0 noS ([appRes 5 1 v])) (fun (k : Nat) (acc : Nat) => k ≤ m ∧ acc ≤ b + k * B) (fun (k : Nat) (acc : Nat) => m - k) (0) (b) v1 (⟨by omega, by omega⟩) ⟨ke rfl, ⟨_, rfl, own_le (by simp)⟩, trivial⟩ (fun _ _ h => h) ?_)
 rintro k acc v ⟨hk1, hk2⟩
 have hkB : k * B ≤ 20 * B := Nat.mul_le_mul_right B (by omega)
 refine ac ?_
 refine co rfl (ok_len rfl underlying221 (vl rfl)) ?_
 refine an ?_ ?_ <;> intro h1 q1
 have hkm : k < m := by have := Nrm.nrm h1; rw [hlr] at this; omega
 have ih2 := ih.resolve_left (by omega)
 refine ac ?_
 refine ap ?_
 refine tp rfl (ok_indexAddr rfl underlying221 sz223 (vl rfl) (vl rfl) (by omega) (rep_at hkm)) (tp rfl (ok_loadA rfl agg223 sz223 (vl rfl) rfl rfl) (tp rfl (kc1 (ih2) rfl rfl) ?_))
 refine TO.ex 22 rfl (fun z22 => TO.fact 22 rfl fun hz22 => ?_)
 refine TO.efs 0 rfl rfl (by decide) (eApp rfl rfl rfl rfl underlying198 sz5 by5 z5 (Kb rfl) (vl rfl) (appR_is (by exact List.Mem.head _) (Ka rfl))) (fun v2 => ?_)
 refine ap ?_
 refine wk3 1 3 4 rfl ?_
 refine ac ?_
 exact Fin.famD2V1 (k + 1) (acc + z22) v2 (⟨⟨by omega, by rw [Nat.succ_mul]; omega⟩, by omega⟩) ⟨⟨_, rfl, int_succ k⟩, ⟨_, rfl, own_le (by rw [rep_add])⟩, ke rfl, trivial⟩ (fun _ _ h => h)
 have hke : k = m := by have := Nrm.nrm h1; rw [hlr] at this; omega
 have hll := lenC_le acc
 refine ac ?_
 refine Tr.seq (Tr.pad (Tr.rx ?_))
 refine ay ?_
 refine xo rfl (fun _ => ok_conv rfl underlying3 underlying5 (vl rfl)) (xo rfl (fun _ => ok_buildSlice (xs := [.tmp 26]) (rows := [u8R]) rfl rfl underlying198 sz5 z5 rfl (by decide) ⟨⟨(by exact rfl), VL.le (vl rfl) (Pr.le_trans (is_anyK _ _) (one_cellsP _))⟩, trivial⟩ (by decide)) ?_)
 refine xm rfl (xo rfl (fun _ => ok_len rfl underlying198 (Kb rfl)) ?_)
 refine xo rfl (fun _ => ok_call rfl (w_rlength (n := acc) (by omega)) ⟨⟨_, rfl, int_eq (by simp)⟩, trivial⟩) ?_
 refine Cx.ef 0 rfl rfl (by decide) (eApp rfl rfl rfl rfl underlying198 sz5 by5 z5 (Kf rfl) (vl rfl) (appR_full (by exact List.Mem.head _) (vl rfl))) ?_
 refine xm rfl ?_
 refine Cx.ef 0 rfl rfl (by decide) (eApp rfl rfl rfl rfl underlying198 sz5 by5 z5 (vl rfl) (Kb rfl) appR_slot) ?_
 refine Cx.ef 0 rfl rfl (by decide) (ef_move rfl rfl (by decide) rfl (vl rfl)) ?_
 refine Cx.nil ⟨by kernel_rfl, ?_⟩
 refine FinX.open_ 0 2 rfl rfl (fun v3 => ?_)
 refine FinX.done al2 (Fin.go (wk1 2 rfl ?_))
 refine ac ?_
 · exact bytesE_in (m := 1 + lenC acc + acc) (by have := lenC_le acc; omega) (Pr.le_trans (andIs_le _ _) (Pr.le_of_eq (by rw [show ([u8R] : List (List Pr)) = List.replicate 1 u8R from rfl, rep_add, rep_add])))
theorem w_rEncode {q : Pr} {D B : Nat} (hf : Fun prog 247 [agg (rowQ q)] anyB) (hd : Fun prog 248 [agg (rowQ q)] (depthE D)) (hp : Fun prog 249 [agg (rowQ q)] (bytesE B)) : Fun prog 201 [agg (rowQ q)] (tup [bytesE B, anyK .i64]) := by
 refine fo func201 rfl ⟨rfl, rfl⟩ fun M0 w0 => ?_
 refine ac ?_
 refine ap ?_
 refine tp rfl (kc1 (hf) rfl rfl) ?_
 refine TO.ex 6 rfl (fun z6 => ?_)
 refine ap ?_
 refine Tr.cn rfl ?_ ?_ <;> intro h1 q1
 refine ac ?_
 refine Tr.ret (Fin.then_ret (Fin.ret2 rfl (OutW.bse _ _) rfl ?_ rfl ?_))
 · exact bytesE_in (m := 0) (by omega) (nil_slice 1)
 · exact is_anyK _ _
 refine ac ?_
 refine ap ?_
 refine tp rfl (kc1 (hd) rfl rfl) ?_
 refine TO.ex 9 rfl (fun z9 => TO.fact 9 rfl fun hz9 => ?_)
 refine ap ?_
 refine Tr.cn rfl ?_ ?_ <;> intro h2 q2
 refine ac ?_
 refine Tr.ret (Fin.then_ret (Fin.ret2 rfl (OutW.bse _ _) rfl ?_ rfl ?_))
 · exact bytesE_in (m := 0) (by omega) (nil_slice 1)
 · exact is_anyK _ _
 refine a2 ?_
 refine co rfl (kc1 (hp) rfl rfl) ?_
 refine ac ?_
 refine ap ?_
 refine TO.ex 13 rfl (fun z13 => TO.fact 13 rfl fun hz13 => ?_)
 refine tp rfl (ok_len rfl underlying198 (vl rfl)) ?_
 refine ap ?_
 refine wk2 4 15 rfl ?_
 refine Tr.cn rfl ?_ ?_ <;> intro h3 q3
 refine ac ?_
 refine Tr.ret (Fin.then_ret (Fin.ret2 rfl (OutW.bse _ _) rfl ?_ rfl ?_))
 · exact bytesE_in (m := 0) (by omega) (nil_slice 1)
 · exact is_anyK _ _
 refine a2 ?_
 refine Tr.ret (Fin.ret2 rfl (OutW.bse _ _) rfl ?_ rfl ?_)
 · exact Lr
 · exact is_anyK _ _
theorem u8_zero : IntKind.u8.wrap 0 = 0 := rfl
def intMu (x h : Int) : Nat := (2 * x).toNat + (if 128 ≤ h then 1 else 0)
theorem int_step {x h : Int} {t : Nat} (h0 : 0 ≤ x) (hc : x ≠ 0 ∨ 128 ≤ h) (hi : t + intMu x h ≤ 400) : (0 ≤ x / 256 ∧ t + 1 + intMu (x / 256) (IntKind.u8.wrap x) ≤ 400) ∧ intMu (x / 256) (IntKind.u8.wrap x) < intMu x h := by
 have key : intMu (x / 256) (IntKind.u8.wrap x) < intMu x h := by
  unfold intMu
  by_cases hx : x = 0
  ·
   subst hx
   rw [u8_zero, if_neg (by omega), if_pos (by omega)]; decide
  ·
   have : (if 128 ≤ IntKind.u8.wrap x then 1 else 0) ≤ 1 := by split <;> omega
   have : 0 ≤ (if 128 ≤ h then 1 else 0) := by split <;> omega
   omega
 exact ⟨⟨by omega, by omega⟩, key⟩
theorem ok_shr8 {P : Program} {I : Asn} {E : Env} {o : Oper} {t u : TypeId} {x y : Operand} {m : Int} (ho : o.op = .binOp .shr t x y u) (hx : VL E x (int m)) (hy : VL E y (is (.int .u64 8))) (h0 : 0 ≤ m) : OpOK P I o E (int (m / 256)) :=
 OpOK.same fun M w a he _ => by
  have h1 : a.eval x = .int .i64 m := hx.ev he (by simp [ho, Op.operands])
  have h2 : a.eval y = .int .u64 8 := hy.ev he (by simp [ho, Op.operands])
  refine ⟨.int .i64 (m.fdiv 256), ?_, congrArg (Value.int .i64) (Int.fdiv_eq_ediv_of_nonneg m (by omega))⟩
  simp only [execOp, ho, h1, h2]
  simp [eqGuard, binOp, Op.shift, IntKind.bits]
abbrev q0 : Pr := slice 4 []

theorem w_rInt {n : Int} (hn : 0 ≤ n ∧ n ≤ 40000) : Fun prog 252 [int n] (agg (rowQ q0)) := by
 refine fo func252 rfl ⟨rfl, rfl⟩ fun M0 w0 => (Tr.seq (Tr.regT ?_))
 refine Tl rfl rfl rfl rfl z223 zo223 (fun b1 => ?_)
 refine ap ?_
 refine ac ?_
 refine co rfl (ok_conv rfl underlying3 underlying5 (vl rfl)) ?_
 refine a2 ?_
 refine co rfl (ok_shr8 rfl (vl rfl) (vl rfl) (by omega)) ?_
 refine ac ?_
 refine Tr.block ?_
 refine Tr.loopD3V0 [(2, _)] ⟨ke rfl, trivial⟩ (fun (x : Int) (h : Int) (t : List Int) => [(4, int x), (3, slice 1 ((h :: t).map fun n => [is (.int .u8 n)]))]) (fun (x : Int) (h : Int) (t : List Int) => Hp M0 w0 noS ([cellsRes true b1 223 (([.int .i64 0, .slice none 0 0, .bool false, .slice none 0 0] : List Value).map is)])) (fun (x : Int) (h : Int) (t : List Int) => 0 ≤ x ∧ t.length + intMu x h ≤ 400) (fun (x : Int) (h : Int) (t : List Int) => intMu x h) (n / 256) (IntKind.u8.wrap n) ([])  (⟨by omega, by unfold intMu; simp only [List.length_nil]; split <;> omega⟩) ⟨ke rfl, ⟨_, rfl, Pr.le_trans (full_le _ _) (Pr.le_of_eq rfl)⟩, trivial⟩ (fun _ _ h => h) ?_
 rintro x h t  ⟨hx0, hmu⟩
 refine ag ?_ ?_ <;> intro h1 q1
 refine ag ?_ ?_ <;> intro h2 q2
 refine ac ?_
 refine wk4 2 3 4 35 rfl ?_
 refine ac ?_
 refine ap ?_
 refine tp rfl (ok_conv rfl underlying3 underlying5 (vl rfl)) ?_
 refine ap ?_
 refine TO.pad ?_
 refine TO.efs 0 rfl rfl (by decide) (eApp rfl rfl rfl rfl underlying198 sz5 by5 z5 (Kf rfl) (vl rfl) (appR_full (by exact List.Mem.head _) (vl rfl))) (fun v1 => ?_)
 refine ap ?_
 refine ac ?_
 refine co rfl (ok_shr8 rfl (vl rfl) (vl rfl) (by omega)) ?_
 refine ac ?_
 refine Fin.drop 0 (Fin.famD3V0 (x / 256) (IntKind.u8.wrap x) (h :: t)  ((int_step hx0 (by omega) hmu)) ⟨ke rfl, ⟨_, rfl, Pr.le_trans (andIs_le _ _) (Pr.le_of_eq rfl)⟩, ke rfl, trivial⟩ (fun _ _ h => h))
 refine ag ?_ ?_ <;> intro h3 q3
 refine cym h3 rfl ?_
 refine cy h3 rfl (ok_indexAddr rfl underlying198 sz5 (vl rfl) (vl rfl) (by omega) (row_at (k := 0) rfl)) ?_
 refine ag ?_ ?_ <;> intro h4 q4
 refine ac ?_
 refine wk4 2 3 4 35 rfl ?_
 refine ac ?_
 refine ap ?_
 refine tp rfl (ok_conv rfl underlying3 underlying5 (vl rfl)) ?_
 refine ap ?_
 refine TO.pad ?_
 refine TO.efs 0 rfl rfl (by decide) (eApp rfl rfl rfl rfl underlying198 sz5 by5 z5 (Kf rfl) (vl rfl) (appR_full (by exact List.Mem.head _) (vl rfl))) (fun v2 => ?_)
 refine ap ?_
 refine ac ?_
 refine co rfl (ok_shr8 rfl (vl rfl) (vl rfl) (by omega)) ?_
 refine ac ?_
 refine Fin.drop 0 (Fin.famD3V0 (x / 256) (IntKind.u8.wrap x) (h :: t)  ((int_step hx0 (by omega) hmu)) ⟨ke rfl, ⟨_, rfl, Pr.le_trans (andIs_le _ _) (Pr.le_of_eq rfl)⟩, ke rfl, trivial⟩ (fun _ _ h => h))
 refine ag ?_ ?_ <;> intro h5 q5
 refine cym h5 rfl ?_
 refine cy h5 rfl (ok_indexAddr rfl underlying198 sz5 (vl rfl) (vl rfl) (by omega) (row_at (k := 0) rfl)) ?_
 refine ac ?_
 refine wk4 2 3 4 35 rfl ?_
 refine Tr.cn rfl ?_ ?_ <;> intro h6 q6
 have hc_ := h6
 refine ac ?_
 refine ap ?_
 refine tp rfl (ok_conv rfl underlying3 underlying5 (vl rfl)) ?_
 refine ap ?_
 refine TO.pad ?_
 refine TO.efs 0 rfl rfl (by decide) (eApp rfl rfl rfl rfl underlying198 sz5 by5 z5 (Kf rfl) (vl rfl) (appR_full (by exact List.Mem.head _) (vl rfl))) (fun v3 => ?_)
 refine ap ?_
 refine ac ?_
 refine co rfl (ok_shr8 rfl (vl rfl) (vl rfl) (by omega)) ?_
 refine ac ?_
 refine Fin.drop 0 (Fin.famD3V0 (x / 256) (IntKind.u8.wrap x) (h :: t)  ((int_step hx0 (by omega) hmu)) ⟨ke rfl, ⟨_, rfl, Pr.le_trans (andIs_le _ _) (Pr.le_of_eq rfl)⟩, ke rfl, trivial⟩ (fun _ _ h => h))
 have hc_ := h6
 refine ac ?_
 refine ap ?_
 refine Tr.ret (Fin.retX1 rfl (RVal.cell 0 rfl rfl agg223 sz223 rfl (Lr)) ?_)
 · exact agg_le ⟨is_anyK _ _, bytesE_in (m := (h :: t).length) (by simp only [List.length_cons]; omega) bts_of, ex_in _ (Lr), nil_slice 4, trivial⟩
 refine ac ?_
 refine wk4 2 3 4 35 rfl ?_
 refine ac ?_
 refine ap ?_
 refine Tr.ret (Fin.retX1 rfl (RVal.cell 0 rfl rfl agg223 sz223 rfl (Lr)) ?_)
 · exact agg_le ⟨is_anyK _ _, bytesE_in (m := (h :: t).length) (by simp only [List.length_cons]; omega) bts_of, ex_in _ (Lr), nil_slice 4, trivial⟩
 refine ag ?_ ?_ <;> intro h7 q7
 refine cym h7 rfl ?_
 refine cy h7 rfl (ok_indexAddr rfl underlying198 sz5 (vl rfl) (vl rfl) (by omega) (row_at (k := 0) rfl)) ?_
 refine ac ?_
 refine wk4 2 3 4 35 rfl ?_
 refine Tr.cn rfl ?_ ?_ <;> intro h8 q8
 have hc_ := h8
 refine ac ?_
 refine ap ?_
 refine tp rfl (ok_conv rfl underlying3 underlying5 (vl rfl)) ?_
 refine ap ?_
 refine TO.pad ?_
 refine TO.efs 0 rfl rfl (by decide) (eApp rfl rfl rfl rfl underlying198 sz5 by5 z5 (Kf rfl) (vl rfl) (appR_full (by exact List.Mem.head _) (vl rfl))) (fun v4 => ?_)
 refine ap ?_
 refine ac ?_
 refine co rfl (ok_shr8 rfl (vl rfl) (vl rfl) (by omega)) ?_
 refine ac ?_
 refine Fin.drop 0 (Fin.famD3V0 (x / 256) (IntKind.u8.wrap x) (h :: t)  ((int_step hx0 (by omega) hmu)) ⟨ke rfl, ⟨_, rfl, Pr.le_trans (andIs_le _ _) (Pr.le_of_eq rfl)⟩, ke rfl, trivial⟩ (fun _ _ h => h))
 have hc_ := h8
 refine ac ?_
 refine ap ?_
 refine Tr.ret (Fin.retX1 rfl (RVal.cell 0 rfl rfl agg223 sz223 rfl (Lr)) ?_)
 · exact agg_le ⟨is_anyK _ _, bytesE_in (m := (h :: t).length) (by simp only [List.length_cons]; omega) bts_of, ex_in _ (Lr), nil_slice 4, trivial⟩
 refine ac ?_
 refine wk4 2 3 4 35 rfl ?_
 refine ac ?_
 refine ap ?_
 refine Tr.ret (Fin.retX1 rfl (RVal.cell 0 rfl rfl agg223 sz223 rfl (Lr)) ?_)
 · exact agg_le ⟨is_anyK _ _, bytesE_in (m := (h :: t).length) (by simp only [List.length_cons]; omega) bts_of, ex_in _ (Lr), nil_slice 4, trivial⟩
 refine ag ?_ ?_ <;> intro h9 q9
 refine cym h9 rfl ?_
 refine cy h9 rfl (ok_indexAddr rfl underlying198 sz5 (vl rfl) (vl rfl) (by omega) (row_at (k := 0) rfl)) ?_
 refine ag ?_ ?_ <;> intro h10 q10
 refine ac ?_
 refine wk4 2 3 4 35 rfl ?_
 refine ac ?_
 refine ap ?_
 refine tp rfl (ok_conv rfl underlying3 underlying5 (vl rfl)) ?_
 refine ap ?_
 refine TO.pad ?_
 refine TO.efs 0 rfl rfl (by decide) (eApp rfl rfl rfl rfl underlying198 sz5 by5 z5 (Kf rfl) (vl rfl) (appR_full (by exact List.Mem.head _) (vl rfl))) (fun v5 => ?_)
 refine ap ?_
 refine ac ?_
 refine co rfl (ok_shr8 rfl (vl rfl) (vl rfl) (by omega)) ?_
 refine ac ?_
 refine Fin.drop 0 (Fin.famD3V0 (x / 256) (IntKind.u8.wrap x) (h :: t)  ((int_step hx0 (by omega) hmu)) ⟨ke rfl, ⟨_, rfl, Pr.le_trans (andIs_le _ _) (Pr.le_of_eq rfl)⟩, ke rfl, trivial⟩ (fun _ _ h => h))
 refine ag ?_ ?_ <;> intro h11 q11
 refine cym h11 rfl ?_
 refine cy h11 rfl (ok_indexAddr rfl underlying198 sz5 (vl rfl) (vl rfl) (by omega) (row_at (k := 0) rfl)) ?_
 refine ac ?_
 refine wk4 2 3 4 35 rfl ?_
 refine Tr.cn rfl ?_ ?_ <;> intro h12 q12
 have hc_ := h12
 refine ac ?_
 refine ap ?_
 refine tp rfl (ok_conv rfl underlying3 underlying5 (vl rfl)) ?_
 refine ap ?_
 refine TO.pad ?_
 refine TO.efs 0 rfl rfl (by decide) (eApp rfl rfl rfl rfl underlying198 sz5 by5 z5 (Kf rfl) (vl rfl) (appR_full (by exact List.Mem.head _) (vl rfl))) (fun v6 => ?_)
 refine ap ?_
 refine ac ?_
 refine co rfl (ok_shr8 rfl (vl rfl) (vl rfl) (by omega)) ?_
 refine ac ?_
 refine Fin.drop 0 (Fin.famD3V0 (x / 256) (IntKind.u8.wrap x) (h :: t)  ((int_step hx0 (by omega) hmu)) ⟨ke rfl, ⟨_, rfl, Pr.le_trans (andIs_le _ _) (Pr.le_of_eq rfl)⟩, ke rfl, trivial⟩ (fun _ _ h => h))
 have hc_ := h12
 refine ac ?_
 refine ap ?_
 refine Tr.ret (Fin.retX1 rfl (RVal.cell 0 rfl rfl agg223 sz223 rfl (Lr)) ?_)
 · exact agg_le ⟨is_anyK _ _, bytesE_in (m := (h :: t).length) (by simp only [List.length_cons]; omega) bts_of, ex_in _ (Lr), nil_slice 4, trivial⟩
 refine ac ?_
 refine wk4 2 3 4 35 rfl ?_
 refine ac ?_
 refine ap ?_
 refine Tr.ret (Fin.retX1 rfl (RVal.cell 0 rfl rfl agg223 sz223 rfl (Lr)) ?_)
 · exact agg_le ⟨is_anyK _ _, bytesE_in (m := (h :: t).length) (by simp only [List.length_cons]; omega) bts_of, ex_in _ (Lr), nil_slice 4, trivial⟩
 refine ag ?_ ?_ <;> intro h13 q13
 refine cym h13 rfl ?_
 refine cy h13 rfl (ok_indexAddr rfl underlying198 sz5 (vl rfl) (vl rfl) (by omega) (row_at (k := 0) rfl)) ?_
 refine ac ?_
 refine wk4 2 3 4 35 rfl ?_
 refine Tr.cn rfl ?_ ?_ <;> intro h14 q14
 have hc_ := h14
 refine ac ?_
 refine ap ?_
 refine tp rfl (ok_conv rfl underlying3 underlying5 (vl rfl)) ?_
 refine ap ?_
 refine TO.pad ?_
 refine TO.efs 0 rfl rfl (by decide) (eApp rfl rfl rfl rfl underlying198 sz5 by5 z5 (Kf rfl) (vl rfl) (appR_full (by exact List.Mem.head _) (vl rfl))) (fun v7 => ?_)
 refine ap ?_
 refine ac ?_
 refine co rfl (ok_shr8 rfl (vl rfl) (vl rfl) (by omega)) ?_
 refine ac ?_
 refine Fin.drop 0 (Fin.famD3V0 (x / 256) (IntKind.u8.wrap x) (h :: t)  ((int_step hx0 (by omega) hmu)) ⟨ke rfl, ⟨_, rfl, Pr.le_trans (andIs_le _ _) (Pr.le_of_eq rfl)⟩, ke rfl, trivial⟩ (fun _ _ h => h))
 have hc_ := h14
 refine ac ?_
 refine ap ?_
 refine Tr.ret (Fin.retX1 rfl (RVal.cell 0 rfl rfl agg223 sz223 rfl (Lr)) ?_)
 · exact agg_le ⟨is_anyK _ _, bytesE_in (m := (h :: t).length) (by simp only [List.length_cons]; omega) bts_of, ex_in _ (Lr), nil_slice 4, trivial⟩
 refine ac ?_
 refine wk4 2 3 4 35 rfl ?_
 refine ac ?_
 refine ap ?_
 refine Tr.ret (Fin.retX1 rfl (RVal.cell 0 rfl rfl agg223 sz223 rfl (Lr)) ?_)
 · exact agg_le ⟨is_anyK _ _, bytesE_in (m := (h :: t).length) (by simp only [List.length_cons]; omega) bts_of, ex_in _ (Lr), nil_slice 4, trivial⟩
theorem w_rText {s : List UInt8} (hs : s.length ≤ 1000) : Fun prog 250 [str s] (agg (rowQ q0)) := by
 refine fo func250 rfl ⟨rfl, rfl⟩ fun M0 w0 => (Tr.seq (Tr.regT ?_))
 refine Tl rfl rfl rfl rfl z223 zo223 (fun b1 => ?_)
 refine ap ?_
 refine ap ?_
 refine tp rfl (ok_bytes rfl underlying9 underlying198 underlying5 (vl rfl) (by unfold maxLen; omega)) ?_
 refine ap ?_
 refine Tr.ret (Fin.retX1 rfl (RVal.cell 0 rfl rfl agg223 sz223 rfl (Lr)) ?_)
 · exact agg_le ⟨is_anyK _ _, bytesE_in (m := s.length) (by omega) (bts_of (f := fun c : UInt8 => ((c.toNat : Nat) : Int))), ex_in _ (Lr), nil_slice 4, trivial⟩
theorem w_rBool {b : Bool}  : Fun prog 254 [bool b] (agg (rowQ q0)) := by
 refine fo func254 rfl ⟨rfl, rfl⟩ fun M0 w0 => (Tr.seq (Tr.regT ?_))
 refine Tl rfl rfl rfl rfl z223 zo223 (fun b1 => ?_)
 refine ap ?_
 refine an ?_ ?_ <;> intro h1 q1
 refine ap ?_
 refine tp rfl (ok_build (rows := [(0, [_]), (1, [_])]) rfl bl223 zo223 ⟨⟨rfl, (Vo rfl)⟩, ⟨⟨rfl, ⟨_, rfl, Pr.le_trans (full_le _ _) (one_cellsP _)⟩⟩, trivial⟩⟩ rfl) ?_
 refine ap ?_
 refine Tr.ret (Fin.then_ret (Fin.retX1 rfl (RVal.cell 0 rfl rfl agg223 sz223 rfl (Lr)) ?_))
 · exact agg_le ⟨is_anyK _ _, bytesE_in (m := 1) (by omega) (bts_one _), ex_in _ (Lr), nil_slice 4, trivial⟩
 refine ac ?_
 refine ap ?_
 refine tp rfl (ok_build (rows := [(0, [_]), (1, [_])]) rfl bl223 zo223 ⟨⟨rfl, (Vo rfl)⟩, ⟨⟨rfl, ⟨_, rfl, Pr.le_trans (full_le _ _) (one_cellsP _)⟩⟩, trivial⟩⟩ rfl) ?_
 refine ap ?_
 refine Tr.ret (Fin.retX1 rfl (RVal.cell 0 rfl rfl agg223 sz223 rfl (Lr)) ?_)
 · exact agg_le ⟨is_anyK _ _, bytesE_in (m := 1) (by omega) (bts_one _), ex_in _ (Lr), nil_slice 4, trivial⟩
theorem w_rcopies {m : Nat} {q : Pr} [One q]  (hm : m ≤ 20) (ih : m = 0 ∨ Fun prog 286 [q] q) : Fun prog 286 [slice 4 (List.replicate m (rowQ q))] (slice 4 (List.replicate m (rowQ q))) := by
 refine Fun.of func286 rfl rfl (by exact Nb rfl) fun M0 w0 => ?_
 have hlr : (List.replicate m (rowQ q)).length = m := List.length_replicate
 refine Tr.seq (Tr.reg0 (cm rfl (Ch.nil (Fin.go (Tr.seq (Tr.reg0 (cm rfl (Ch.nil (Fin.go (Tr.seq (Tr.seq (Tr.reg0 (cm rfl ?_)))))))))))))
 refine Ch.nil (Fin.go (Tr.block (Tr.addnil 223 4 (Tr.loopV1 [(0, _)] ⟨ke rfl, trivial⟩ (fun k v => [(4, int ((k : Nat) : Int)), (3, andIs v (slice 4 (List.replicate k (rowQ q))))]) (fun k v => Hp M0 w0 noS ([appRes 223 4 v])) (fun k : Nat => k ≤ ((List.replicate m (rowQ q)).length)) (fun k : Nat => ((List.replicate m (rowQ q)).length) - k) 0 (.slice none 0 0) (Nat.zero_le _) ⟨ke rfl, ⟨_, rfl, own_nil rfl⟩, trivial⟩ (fun _ _ h => h) ?_))))
 rintro k v hle_k
 refine Tr.seq (Tr.seq (Tr.reg0 (cm rfl (cm rfl (co rfl (ok_len rfl underlying221 (vl rfl)) (co rfl (ki rfl rfl rfl rfl) (Ch.nil (Fin.go ?_))))))))
 refine Tr.cn rfl ?_ ?_ <;> intro h1 q1
 have hk_k : k < ((List.replicate m (rowQ q)).length) := lt_of_dec h1
 have hkm : k < m := by simpa using hk_k
 have ih2 := ih.resolve_left (by omega)
 refine Tr.skip (Fin.go (Tr.seq (Tr.block (Tr.seq (Tr.regT (tm rfl (tm rfl (tp rfl (ok_indexAddr rfl underlying221 sz223 (vl rfl) (vl rfl) (by omega) (rep_at hkm)) (tp rfl (ok_loadA rfl agg223 sz223 (vl rfl) rfl rfl) ?_)))))))))
 refine Tl rfl rfl rfl rfl z223 zo223 (fun b1 => ?_)
 refine TO.store_all 0 rfl rfl rfl (vl rfl) (Va rfl) rfl sz223 rfl rfl (TO.nil (Fin.go (Tr.seq (Tr.regT (tp rfl (ok_buildSlice (xs := []) (rows := []) rfl rfl underlying198 sz5 z5 rfl (by decide) trivial (by decide)) (tp rfl (okp_fieldAddr rfl fo223_1 (vl rfl)) (TO.rd 0 rfl rfl rfl (by decide) (rd_load1 rfl one198 (vl rfl) rfl) ?_)))))))
 refine TO.ex 18 rfl (fun z18 => TO.fact 18 rfl fun hz18 => ?_)
 refine TO.pad ?_
 refine TO.efs 0 rfl rfl (by decide) (eApp rfl rfl rfl rfl underlying198 sz5 by5 z5 (Kf rfl) (vl rfl) (appR_full (by exact List.Mem.head _) (vl rfl))) (fun v1 => ?_)
 refine tp rfl (okp_fieldAddr rfl fo223_1 (vl rfl)) (TO.ef0 1 rfl rfl (ef_store rfl rfl (vl rfl) (Vo rfl) sz198 rfl (by exact Nb rfl) rfl) (TO.nil (Fin.go (wk4 0 3 4 5 rfl (Tr.seq (Tr.regT (tp rfl (okp_fieldAddr rfl fo223_3 (vl rfl)) (TO.rd 1 rfl rfl rfl (by decide) (rd_load1 rfl one221 (vl rfl) rfl) (tp rfl (ok_call rfl (ih2) ⟨ke rfl, trivial⟩) (tp rfl (okp_fieldAddr rfl fo223_3 (vl rfl)) (TO.ef0 1 rfl rfl (ef_store rfl rfl (vl rfl) (Vo rfl) sz221 rfl (by exact Nb rfl) rfl) (TO.nil (Fin.go (Tr.regT ?_))))))))))))))
 refine tm rfl (TO.rd 1 rfl rfl rfl (by decide) (rd_loadA rfl agg223 sz223 (vl rfl) rfl rfl) (tp rfl (ok_buildSlice (xs := [.tmp 26]) (rows := [rowQ q]) rfl rfl underlying221 sz223 z223 rfl (by decide) ⟨⟨(by exact rfl), VL.le (vl rfl) (Pr.le_trans (agg_le (qs := rowQ q) ⟨Lr, bytesE_in (m := z18) (by omega) (Pr.le_trans (andIs_le _ _) (Pr.le_of_eq rfl)), Lr, Lr, trivial⟩) (agg_cellsP _))⟩, trivial⟩ (by decide)) ?_))
 refine TO.efs 2 rfl rfl (by decide) (eApp rfl rfl rfl rfl underlying221 sz223 by223 z223 (Kb rfl) (Kf rfl) (appR_is (by exact List.Mem.head _) (Ka rfl))) (fun v2 => ?_)
 refine tm rfl (TO.nil (Fin.block (Fin.go (Tr.drop 1 (Tr.reg0 (cm rfl (cad rfl rfl rfl rfl (by omega) (cm rfl (Ch.nil (Fin.drop 0 (Fin.famV1 (k + 1) v2 (⟨hk_k, by omega⟩) ⟨⟨_, rfl, int_succ k⟩, ⟨_, rfl, own_le (by rw [rep_one])⟩, ke rfl, trivial⟩ (fun _ _ h => h))))))))))))
 have he_k : k = ((List.replicate m (rowQ q)).length) := by have := ge_of_dec h1; omega
 refine Tr.exit (Fin.then_exit (Fin.then_exit (Fin.block_here (Fin.go (Tr.seq (Tr.reg0 (cm rfl (cm rfl (Ch.nil (Fin.go (Tr.ret (Fin.ret1 rfl (OutW.bse _ _) rfl ?_))))))))))))
 · exact Pr.le_trans (andIs_le _ _) (Pr.le_of_eq (by rw [he_k, hlr]))
theorem w_rList {m : Nat} {q : Pr}  (hm : m ≤ 20) (hc : Fun prog 286 [slice 4 (List.replicate m (rowQ q))] (slice 4 (List.replicate m (rowQ q)))) : Fun prog 251 [slice 4 (List.replicate m (rowQ q))] (agg (rowQ (elemsE (rowQ q)))) := by
 refine fo func251 rfl ⟨rfl, rfl⟩ fun M0 w0 => (Tr.seq (Tr.regT ?_))
 refine Tl rfl rfl rfl rfl z223 zo223 (fun b1 => ?_)
 refine ap ?_
 refine ap ?_
 refine tp rfl (kc1 (hc) rfl rfl) ?_
 refine ap ?_
 refine Tr.ret (Fin.retX1 rfl (RVal.cell 0 rfl rfl agg223 sz223 rfl (Lr)) ?_)
 · exact agg_le ⟨is_anyK _ _, bytesE_in (m := 0) (by omega) (nil_slice 1), ex_in _ (Lr), ex_in m (fact_in hm (Lr)), trivial⟩
structure Crt.vf (c : Crt) : Prop where
 s0 : 0 ≤ c.serial
 s1 : c.serial ≤ 1099511627776
 iss : named c.issuer = true
 sub : named c.subject = true
 nm : namesB c.names = true
 key : ofB c.kalg c.kbits 2 = true
 k0 : 0 ≤ c.keyId
 k1 : c.keyId ≤ 2147483648
 hash : ofB c.halg c.hbits 1 = true
 sk0 : 0 ≤ c.skey
 sk1 : c.skey ≤ 2147483648
 su0 : 0 ≤ c.ssum
 su1 : c.ssum < 4294967296
 f0 : 0 ≤ c.from_
 ft : c.from_ ≤ c.to_
 t1 : c.to_ ≤ 40000
 p0 : 0 ≤ c.path
 p1 : c.path ≤ 8
 ap : c.auth = true ∨ c.path = 0
theorem vf_of {c : Crt} (hv : validB c = true) : c.vf := by
 simp only [validB, keyB, sumB, Bool.and_eq_true, Bool.or_eq_true, decide_eq_true_eq, beq_iff_eq] at hv
 obtain ⟨⟨⟨⟨⟨⟨⟨h1, h2⟩, h3⟩, h4⟩, h5⟩, ⟨⟨⟨⟨h6, ⟨h7, h8⟩⟩, h9⟩, ⟨h10, h11⟩⟩, ⟨h12, h13⟩⟩⟩, ⟨⟨h14, h15⟩, h16⟩⟩, ⟨⟨h17, h18⟩, h19⟩⟩ := hv
 exact ⟨h1, h2, h3, h4, h5, h6, h7, h8, h9, h10, h11, h12, h13, h14, h15, h16, h17, h18, h19⟩
theorem of_vf {c : Crt} (h : c.vf) : validB c = true := by
 simp only [validB, keyB, sumB, Bool.and_eq_true, Bool.or_eq_true, decide_eq_true_eq, beq_iff_eq]
 exact ⟨⟨⟨⟨⟨⟨⟨h.s0, h.s1⟩, h.iss⟩, h.sub⟩, h.nm⟩, ⟨⟨⟨⟨h.key, ⟨h.k0, h.k1⟩⟩, h.hash⟩, ⟨h.sk0, h.sk1⟩⟩, ⟨h.su0, h.su1⟩⟩⟩, ⟨⟨h.f0, h.ft⟩, h.t1⟩⟩, ⟨⟨h.p0, h.p1⟩, h.ap⟩⟩
theorem of_iff {a b k : Int} (h : ofB a b k = true) : decide (strength a b > 0) = true ∧ (catOf a).kind = k := by
 unfold ofB at h; simpa using h


theorem name_at {l : List (List UInt8)} {k : Nat} {s : List UInt8} (h : nameAt l k = true) (hs : l[k]? = some s) : named s = true := by
 unfold nameAt at h; rw [hs] at h; simp at h; exact h.1
theorem name_lt {l : List (List UInt8)} {k : Nat} {s y : List UInt8} (h : nameAt l k = true) (hs : l[k]? = some s) (hy : l[k - 1]? = some y) (hk : 0 < k) : decide (Lib.compareBytes y s = -1) = true := by
 unfold nameAt at h; rw [hs, hy] at h; simp at h
 rcases h.2 with h2 | h2
 · omega
 · simpa using h2

theorem w_R3Check {c : Crt} (hv : validB c = true) : Fun prog 159 [agg (rowCr c)] (int 0) := by
 refine fo func159 rfl ⟨rfl, rfl⟩ fun M0 w0 => ?_
 obtain ⟨hs0, hs1, hiss, hsub, hnm, hkey, hk0, hk1, hhash, hsk0, hsk1, hsu0, hsu1, hf0, hft, ht1, hp0, hp1, hap⟩ := vf_of hv
 obtain ⟨hkey1, hkey2⟩ := of_iff hkey
 obtain ⟨hh1, hh2⟩ := of_iff hhash
 have hnm2 := hnm
 unfold namesB at hnm2
 rw [Bool.and_eq_true, allI_iff, decide_eq_true_eq] at hnm2
 obtain ⟨hall, hlen8⟩ := hnm2
 refine ac ?_
 refine ag ?_ ?_ <;> intro h1 q1
 exfalso; have := q1; omega
 refine ag ?_ ?_ <;> intro h2 q2
 exfalso; have := q2; omega
 refine ac ?_
 refine cy h2 rfl (kc1 (w_RName) rfl rfl) ?_
 refine ag ?_ ?_ <;> intro h3 q3
 rw [hiss] at h3; exact absurd h3 (by decide)
 refine ac ?_
 refine cy h3 rfl (kc1 (w_RName) rfl rfl) ?_
 refine ag ?_ ?_ <;> intro h4 q4
 rw [hsub] at h4; exact absurd h4 (by decide)
 refine ac ?_
 refine cy h4 rfl (kc1 (w_Signature) rfl rfl) ?_
 refine ag ?_ ?_ <;> intro h5 q5
 rw [hkey1, hkey2] at h5; exact absurd h5 (by decide)
 refine ag ?_ ?_ <;> intro h6 q6
 exfalso; have := q6; omega
 refine ac ?_
 refine wk2 1 39 rfl ?_
 refine Tr.cn rfl ?_ ?_ <;> intro h7 q7
 exfalso; have := q7; omega
 refine a2 ?_
 refine co rfl (kc1 (w_RValid) rfl rfl) ?_
 refine ag ?_ ?_ <;> intro h8 q8
 rw [hh1] at h8; exact absurd h8 (by decide)
 refine ac ?_
 refine cy h8 rfl (kc1 (w_RKind) rfl rfl) ?_
 refine ag ?_ ?_ <;> intro h9 q9
 rw [hh2] at h9; exact absurd h9 (by decide)
 refine ag ?_ ?_ <;> intro h10 q10
 exfalso; have := q10; omega
 refine ag ?_ ?_ <;> intro h11 q11
 exfalso; have := q11; omega
 refine ac ?_
 refine wk2 1 67 rfl ?_
 refine Tr.cn rfl ?_ ?_ <;> intro h12 q12
 exfalso; have := q12; omega
 refine ac ?_
 refine ag ?_ ?_ <;> intro h13 q13
 exfalso; have := q13; omega
 refine ag ?_ ?_ <;> intro h14 q14
 exfalso; have := q14; omega
 refine ag ?_ ?_ <;> intro h15 q15
 refine ag ?_ ?_ <;> intro h16 q16
 exfalso; have := q16; simp_all
 refine ac ?_
 refine wk2 1 91 rfl ?_
 refine Tr.cn rfl ?_ ?_ <;> intro h17 q17
 exfalso; have := q17; omega
 refine a2 ?_
 refine Tr.block (Tr.loopw [(1, _)] ⟨ke rfl, trivial⟩ (fun k : Nat => [(3, int ((k : Nat) : Int))]) (fun k : Nat => k ≤ (c.names).length) (fun k : Nat => (c.names).length - k) 0 (Nat.zero_le _) ⟨ke rfl, trivial⟩ ?_)
 rintro k hle_k
 refine an ?_ ?_ <;> intro h18 q18
 have hk_k : k < (c.names).length := lt_of_dec h18
 obtain ⟨s, hx_k⟩ := at_ hk_k
 have hat := hall k (by omega)
 have hna := name_at hat hx_k
 refine a2 ?_
 refine co rfl (ok_indexAddr rfl underlying74 sz9 (vl rfl) (vl rfl) (by omega) (row_at hx_k)) (co rfl (kl1 rfl one9 rfl) (co rfl (kc1 (w_RName) rfl rfl) ?_))
 refine ag ?_ ?_ <;> intro h19 q19
 exfalso; rw [hna] at h19; exact absurd h19 (by decide)
 refine ag ?_ ?_ <;> intro h20 q20
 have hk00 : 0 < k := by simpa using h20
 obtain ⟨y, hy⟩ := at_ (l := c.names) (k := k - 1) (by omega)
 have hlt := name_lt hat hx_k hy hk00
 refine ac ?_
 refine cy h20 rfl (ok_indexAddr rfl underlying74 sz9 (vl rfl) (vl rfl) (by omega) (by rw [show ((k : Nat) : Int) - 1 = ((k - 1 : Nat) : Int) by omega]; exact row_at hy)) ?_
 refine ac ?_
 refine cy h20 rfl (ok_indexAddr rfl underlying74 sz9 (vl rfl) (vl rfl) (by omega) (row_at hx_k)) (cy h20 rfl (kl1 rfl one9 rfl) (cy h20 rfl (ok_ges rfl (vl rfl) (vl rfl)) ?_))
 refine ac ?_
 refine wk3 1 3 123 rfl ?_
 refine Tr.cn rfl ?_ ?_ <;> intro h21 q21
 exfalso; rw [hlt] at h21; exact absurd h21 (by decide)
 refine a2 ?_
 exact Fin.fam_same (k + 1) ⟨hk_k, by omega⟩ ⟨⟨_, rfl, int_succ k⟩, ke rfl, trivial⟩
 refine ac ?_
 refine wk3 1 3 123 rfl ?_
 refine a2 ?_
 exact Fin.fam_same (k + 1) ⟨hk_k, by omega⟩ ⟨⟨_, rfl, int_succ k⟩, ke rfl, trivial⟩
 have he_k : k = (c.names).length := by have := ge_of_dec h18; omega
 refine ac ?_
 refine ag ?_ ?_ <;> intro h22 q22
 exfalso; have := q22; omega
 refine ag ?_ ?_ <;> intro h23 q23
 exfalso; have := q23; omega
 refine ag ?_ ?_ <;> intro h24 q24
 exfalso; have := q24; omega
 refine ac ?_
 refine wk1 145 rfl ?_
 refine Tr.cn rfl ?_ ?_ <;> intro h25 q25
 exfalso; have := q25; omega
 refine a3 ?_
 · exact Lr
 refine ac ?_
 refine wk2 1 91 rfl ?_
 refine Tr.cn rfl ?_ ?_ <;> intro h26 q26
 exfalso; have := q26; omega
 refine a2 ?_
 refine Tr.block (Tr.loopw [(1, _)] ⟨ke rfl, trivial⟩ (fun k : Nat => [(3, int ((k : Nat) : Int))]) (fun k : Nat => k ≤ (c.names).length) (fun k : Nat => (c.names).length - k) 0 (Nat.zero_le _) ⟨ke rfl, trivial⟩ ?_)
 rintro k hle_k
 refine an ?_ ?_ <;> intro h27 q27
 have hk_k : k < (c.names).length := lt_of_dec h27
 obtain ⟨s, hx_k⟩ := at_ hk_k
 have hat := hall k (by omega)
 have hna := name_at hat hx_k
 refine a2 ?_
 refine co rfl (ok_indexAddr rfl underlying74 sz9 (vl rfl) (vl rfl) (by omega) (row_at hx_k)) (co rfl (kl1 rfl one9 rfl) (co rfl (kc1 (w_RName) rfl rfl) ?_))
 refine ag ?_ ?_ <;> intro h28 q28
 exfalso; rw [hna] at h28; exact absurd h28 (by decide)
 refine ag ?_ ?_ <;> intro h29 q29
 have hk00 : 0 < k := by simpa using h29
 obtain ⟨y, hy⟩ := at_ (l := c.names) (k := k - 1) (by omega)
 have hlt := name_lt hat hx_k hy hk00
 refine ac ?_
 refine cy h29 rfl (ok_indexAddr rfl underlying74 sz9 (vl rfl) (vl rfl) (by omega) (by rw [show ((k : Nat) : Int) - 1 = ((k - 1 : Nat) : Int) by omega]; exact row_at hy)) ?_
 refine ac ?_
 refine cy h29 rfl (ok_indexAddr rfl underlying74 sz9 (vl rfl) (vl rfl) (by omega) (row_at hx_k)) (cy h29 rfl (kl1 rfl one9 rfl) (cy h29 rfl (ok_ges rfl (vl rfl) (vl rfl)) ?_))
 refine ac ?_
 refine wk3 1 3 123 rfl ?_
 refine Tr.cn rfl ?_ ?_ <;> intro h30 q30
 exfalso; rw [hlt] at h30; exact absurd h30 (by decide)
 refine a2 ?_
 exact Fin.fam_same (k + 1) ⟨hk_k, by omega⟩ ⟨⟨_, rfl, int_succ k⟩, ke rfl, trivial⟩
 refine ac ?_
 refine wk3 1 3 123 rfl ?_
 refine a2 ?_
 exact Fin.fam_same (k + 1) ⟨hk_k, by omega⟩ ⟨⟨_, rfl, int_succ k⟩, ke rfl, trivial⟩
 have he_k : k = (c.names).length := by have := ge_of_dec h27; omega
 refine ac ?_
 refine ag ?_ ?_ <;> intro h31 q31
 exfalso; have := q31; omega
 refine ag ?_ ?_ <;> intro h32 q32
 exfalso; have := q32; omega
 refine ag ?_ ?_ <;> intro h33 q33
 exfalso; have := q33; omega
 refine ac ?_
 refine wk1 145 rfl ?_
 refine Tr.cn rfl ?_ ?_ <;> intro h34 q34
 exfalso; have := q34; omega
 refine a3 ?_
 · exact Lr
abbrev u32R : Pr := Cp.ex fun n : Int => fact (0 ≤ n ∧ n < 4294967296) (is (.int .u32 n))
abbrev sumE : Pr := Cp.ex fun n : Int => fact (0 ≤ n ∧ n < 4294967296) (int n)
theorem u32_any : Pr.le u32R (anyK .u32) := fun _ _ _ ⟨n, _, h⟩ => ⟨n, h⟩
section
variable {P : Program} {I : Asn} {E : Env} {o : Oper}
theorem ok_convK {s t : TypeId} {x : Operand} {k k' : IntKind} (ho : o.op = .convert s t x) (hs : P.underlying s = some (.int k)) (ht : P.underlying t = some (.int k')) (hx : VL E x (anyK k)) : OpOK P I o E (anyK k') :=
 OpOK.same fun M w a he _ => by
  obtain ⟨n, h1⟩ := hx.ev he (by simp [ho, Op.operands])
  have h1 : a.eval x = .int k n := h1
  refine ⟨.int k' (k'.wrap n), ?_, _, rfl⟩
  simp [execOp, ho, h1, convert, run_underlying hs, run_underlying ht, Conv.intToInt, Sem.run_bind]
theorem ok_mulU {t u : TypeId} {x y : Operand} (ho : o.op = .binOp .mul t x y u) (hx : VL E x (anyK .u32)) (hy : VL E y (anyK .u32)) : OpOK P I o E u32R :=
 OpOK.same fun M w a he _ => by
  obtain ⟨m, h1⟩ := hx.ev he (by simp [ho, Op.operands])
  obtain ⟨n, h2⟩ := hy.ev he (by simp [ho, Op.operands])
  have h1 : a.eval x = .int .u32 m := h1
  have h2 : a.eval y = .int .u32 n := h2
  refine ⟨.int .u32 (IntKind.u32.wrap (m * n)), by simp [execOp, ho, h1, h2, eqGuard, binOp, Op.intArith], _, ?_, rfl⟩
  rw [IntKind.wrap_u32]; omega
theorem ok_conv32 {s t : TypeId} {x : Operand} (ho : o.op = .convert s t x) (hs : P.underlying s = some (.int .u32)) (ht : P.underlying t = some (.int .i64)) (hx : VL E x u32R) : OpOK P I o E sumE :=
 OpOK.same fun M w a he _ => by
  obtain ⟨n, hn, h1⟩ := hx.ev he (by simp [ho, Op.operands])
  have h1 : a.eval x = .int .u32 n := h1
  refine ⟨.int .i64 (IntKind.i64.wrap n), ?_, n, hn, by rw [wrap_in (by unfold InI; omega)]; rfl⟩
  simp [execOp, ho, h1, convert, run_underlying hs, run_underlying ht, Conv.intToInt, Sem.run_bind]
end
theorem Fun.elemsE {P : Program} {f : FuncId} {row : List Pr} (h : ∀ m, m ≤ 20 → Fun P f [slice 4 (List.replicate m row)] (slice 4 (List.replicate m row))) : Fun P f [Go.Proofs.YtppeeogffbpcbaaGreat.elemsE row] (Go.Proofs.YtppeeogffbpcbaaGreat.elemsE row) := by
 refine ⟨(h 0 (by omega)).1, fun M w vs hb hv => ?_⟩
 match vs, hv with
 | [u0], hv1 =>
  obtain ⟨⟨m, hm, h0⟩, _⟩ := hv1
  exact ((h m hm).2 M w [u0] hb ⟨h0, trivial⟩).mono fun e w' ⟨v, h1, h2, h3⟩ => ⟨v, h1, ⟨m, hm, h2⟩, h3⟩
theorem Fun.bytesE {P : Program} {f : FuncId} {B : Nat} {res : Pr} (h : ∀ m, m ≤ B → Fun P f [bts m] res) : Fun P f [Go.Proofs.YtppeeogffbpcbaaGreat.bytesE B] res := by
 refine ⟨(h 0 (by omega)).1, fun M w vs hb hv => ?_⟩
 match vs, hv with
 | [u0], hv1 =>
  obtain ⟨⟨m, hm, h0⟩, _⟩ := hv1
  exact (h m hm).2 M w [u0] hb ⟨h0, trivial⟩
abbrev qA1 : Pr := elemsE (rowQ q0)
abbrev qA2 : Pr := elemsE (rowQ qA1)
theorem q0_le : Pr.le q0 qA1 := ex_in 0 (fact_in (by omega) (Pr.le_refl _))
theorem rc0 : Fun Tryz.prog 286 [q0] q0 := w_rcopies (m := 0) (q := q0) (by omega) (.inl rfl)
theorem rc1 (m : Nat) (hm : m ≤ 20) : Fun Tryz.prog 286 [slice 4 (List.replicate m (rowQ q0))] (slice 4 (List.replicate m (rowQ q0))) := w_rcopies hm (.inr rc0)
theorem rc2 (m : Nat) (hm : m ≤ 20) : Fun Tryz.prog 286 [slice 4 (List.replicate m (rowQ qA1))] (slice 4 (List.replicate m (rowQ qA1))) := w_rcopies hm (.inr (Fun.elemsE rc1))
theorem rf0 : Fun Tryz.prog 247 [agg (rowQ q0)] anyB := Fun.rowQ0 fun t b n hb => w_rformed (m := 0) (q := q0) hb (by omega) (.inl rfl)
theorem rf1 : Fun Tryz.prog 247 [agg (rowQ qA1)] anyB := Fun.rowQ fun t b n m hb hm => w_rformed hb hm (.inr rf0)
theorem rf2 : Fun Tryz.prog 247 [agg (rowQ qA2)] anyB := Fun.rowQ fun t b n m hb hm => w_rformed hb hm (.inr rf1)
theorem rd0 : Fun Tryz.prog 248 [agg (rowQ q0)] (depthE 1) := Fun.rowQ0 fun t b n hb => w_rdepth (m := 0) (q := q0) (D := 0) hb (by omega) (by omega) (.inl rfl)
theorem rd1 : Fun Tryz.prog 248 [agg (rowQ qA1)] (depthE 2) := Fun.rowQ fun t b n m hb hm => w_rdepth hb hm (by omega) (.inr rd0)
theorem rd2 : Fun Tryz.prog 248 [agg (rowQ qA2)] (depthE 3) := Fun.rowQ fun t b n m hb hm => w_rdepth hb hm (by omega) (.inr rd1)
theorem rp0 : Fun Tryz.prog 249 [agg (rowQ q0)] (bytesE 2002) := Fun.rowQ0 fun t b n hb => w_rput (m := 0) (q := q0) (B := 0) hb (by omega) (by omega) (.inl rfl)
theorem rp1 : Fun Tryz.prog 249 [agg (rowQ qA1)] (bytesE 82082) := Fun.rowQ fun t b n m hb hm => w_rput (B := 2002) hb hm (by omega) (.inr rp0)
theorem rp2 : Fun Tryz.prog 249 [agg (rowQ qA2)] (bytesE 3285282) := Fun.rowQ fun t b n m hb hm => w_rput (B := 82082) hb hm (by omega) (.inr rp1)
theorem rE2 : Fun Tryz.prog 201 [agg (rowQ qA2)] (tup [bytesE 3285282, anyK .i64]) := w_rEncode rf2 rd2 rp2
/-- Its numbers are small. -/
structure Crt.tiny (c : Crt) : Prop where
 serial : c.serial ≤ 40000
 keyId : c.keyId ≤ 40000
 kalg : 0 ≤ c.kalg ∧ c.kalg ≤ 40000
 kbits : 0 ≤ c.kbits ∧ c.kbits ≤ 40000
 halg : 0 ≤ c.halg ∧ c.halg ≤ 40000
 hbits : 0 ≤ c.hbits ∧ c.hbits ≤ 40000
theorem named_len {s : List UInt8} (h : named s = true) : s.length ≤ 32 := by unfold named at h; simp at h; omega

theorem w_R3use {a b : Int} (ha : 0 ≤ a ∧ a ≤ 40000) (hb : 0 ≤ b ∧ b ≤ 40000) : Fun prog 253 [agg [int a, int b]] (agg (rowQ qA1)) := by
 refine fo func253 rfl ⟨rfl, rfl⟩ fun M0 w0 => (Tr.seq (Tr.regT (tp rfl (ok_box rfl (Va rfl)) ?_)))
 refine Tl rfl rfl rfl rfl z223 zo223 (fun b1 => ?_)
 refine ap ?_
 refine Tr.seq (Tr.rx ?_)
 refine ay ?_
 refine xo rfl (fun _ => kc1 (w_rInt ha) rfl rfl) ?_
 refine ay ?_
 refine xo rfl (fun _ => kc1 (w_rInt hb) rfl rfl) (xo rfl (fun _ => ok_buildSlice (xs := [.tmp 5, .tmp 8]) (rows := [_, _]) rfl rfl underlying221 sz223 z223 rfl (by decide) ⟨⟨(by exact rfl), (Va rfl)⟩, ⟨⟨(by exact rfl), (Va rfl)⟩, trivial⟩⟩ (by decide)) ?_)
 refine xo rfl (fun _ => ok_call rfl (w_rList (m := 2) (q := q0) (by omega) (rc1 _ (by omega))) ⟨(Kf rfl), trivial⟩) ?_
 refine Cx.ef0 0 rfl rfl (ef_store rfl rfl (vl rfl) (Va rfl) sz223 rfl (by exact Nb rfl) rfl) ?_
 refine Cx.nil ⟨by kernel_rfl, ?_⟩
 refine FinX.done al1 (Fin.go (Tr.ret (Fin.retX1 rfl (RVal.cell 0 rfl rfl agg223 sz223 rfl (Lr)) ?_)))
 · exact Lr
theorem w_R3body {c : Crt} (hv : validB c = true) (ht : c.tiny) : Fun prog 202 [agg (rowCr c)] (agg (rowQ qA2)) := by
 refine fo func202 rfl ⟨rfl, rfl⟩ fun M0 w0 => ?_
 obtain ⟨hs0, hs1, hiss, hsub, hnm, hkey, hk0, hk1, hhash, hsk0, hsk1, hsu0, hsu1, hf0, hft, ht1, hp0, hp1, hap⟩ := vf_of hv
 obtain ⟨g1, g2, g3, g4, g5, g6⟩ := ht
 have hnm2 := hnm
 unfold namesB at hnm2
 rw [Bool.and_eq_true, allI_iff, decide_eq_true_eq] at hnm2
 obtain ⟨hall, hlen8⟩ := hnm2
 have hli := named_len hiss
 have hlj := named_len hsub
 refine Tr.seq (Tr.regT (tp rfl (ok_box rfl (Va rfl)) ?_))
 refine Tl rfl rfl rfl rfl z223 zo223 (fun b1 => ?_)
 refine ap ?_
 refine a2 ?_
 refine Tr.block (Tr.addnil 223 4 (Tr.loopV1 [(1, _), (2, _)] ⟨ke rfl, ke rfl, trivial⟩ (fun k v => [(4, int ((k : Nat) : Int)), (3, andIs v (slice 4 (List.replicate k (rowQ q0))))]) (fun k v => Hp M0 w0 noS ([appRes 223 4 v, cellsRes true b1 223 (([.int .i64 0, .slice none 0 0, .bool false, .slice none 0 0] : List Value).map is)])) (fun k : Nat => k ≤ (c.names).length) (fun k : Nat => (c.names).length - k) 0 (.slice none 0 0) (Nat.zero_le _) ⟨ke rfl, ⟨_, rfl, own_nil rfl⟩, trivial⟩ (fun _ _ h => h) ?_))
 rintro k v hle_k
 refine an ?_ ?_ <;> intro h1 q1
 have hk_k : k < (c.names).length := lt_of_dec h1
 obtain ⟨s, hx_k⟩ := at_ hk_k
 have hsn := named_len (name_at (hall k (by omega)) hx_k)
 refine ac ?_
 refine ap ?_
 refine tp rfl (ok_indexAddr rfl underlying74 sz9 (vl rfl) (vl rfl) (by omega) (by exact row_at (by assumption))) ?_
 refine tp rfl (kl1 rfl one9 rfl) (tp rfl (kc1 (w_rText (by omega)) rfl rfl) (tp rfl (ok_buildSlice (xs := [.tmp 18]) (rows := [_]) rfl rfl underlying221 sz223 z223 rfl (by decide) ⟨⟨(by exact rfl), (Va rfl)⟩, trivial⟩ (by decide)) ?_))
 refine TO.efs 0 rfl rfl (by decide) (eApp rfl rfl rfl rfl underlying221 sz223 by223 z223 (Kb rfl) (Kf rfl) (appR_is (by exact List.Mem.head _) (Ka rfl))) (fun v1 => ?_)
 refine ap ?_
 refine wk4 1 2 3 4 rfl ?_
 refine ac ?_
 exact Fin.famV1 (k + 1) v1 (⟨hk_k, by omega⟩) ⟨⟨_, rfl, int_succ k⟩, ⟨_, rfl, own_le (by rw [rep_one])⟩, ke rfl, ke rfl, trivial⟩ (fun _ _ h => h)
 have he_k : k = (c.names).length := by have := ge_of_dec h1; omega
 refine ac ?_
 refine Tr.seq (Tr.rx ?_)
 refine ay ?_
 refine xo rfl (fun _ => kc1 (w_rInt (by omega)) rfl rfl) ?_
 refine ay ?_
 refine xo rfl (fun _ => kc1 (w_rText (by omega)) rfl rfl) ?_
 refine ay ?_
 refine xo rfl (fun _ => kc1 (w_rText (by omega)) rfl rfl) ?_
 refine ay ?_
 refine xo rfl (fun _ => kc1 (w_R3use g3 g4) rfl rfl) ?_
 refine ay ?_
 refine xo rfl (fun _ => kc1 (w_rInt (by omega)) rfl rfl) ?_
 refine ay ?_
 refine xo rfl (fun _ => kc1 (w_R3use g5 g6) rfl rfl) ?_
 refine ay ?_
 refine xo rfl (fun _ => kc1 (w_rInt (by omega)) rfl rfl) ?_
 refine ay ?_
 refine xo rfl (fun _ => kc1 (w_rInt (by omega)) rfl rfl) ?_
 refine ay ?_
 refine xo rfl (fun _ => kc1 (w_rBool) rfl rfl) ?_
 refine ay ?_
 refine xo rfl (fun _ => kc1 (w_rInt (by omega)) rfl rfl) (xm rfl ?_)
 refine xo rfl (fun _ => ok_call rfl (w_rList (m := c.names.length) (q := q0) (by omega) (rc1 _ (by omega))) ⟨⟨_, rfl, Pr.le_trans (andIs_le _ _) (Pr.le_of_eq (by rw [he_k]))⟩, trivial⟩) ?_
 refine xo rfl (fun _ => ok_buildSlice (xs := [.tmp 23, .tmp 26, .tmp 29, .tmp 32, .tmp 35, .tmp 38, .tmp 41, .tmp 44, .tmp 47, .tmp 50, .tmp 52]) (rows := [rowQ qA1, rowQ qA1, rowQ qA1, rowQ qA1, rowQ qA1, rowQ qA1, rowQ qA1, rowQ qA1, rowQ qA1, rowQ qA1, rowQ qA1]) rfl rfl underlying221 sz223 z223 rfl (by decide) ⟨⟨(by exact rfl), VL.le (vl rfl) (Pr.le_trans (agg_le (qs := rowQ qA1) ⟨Lr, Lr, Lr, q0_le, trivial⟩) (agg_cellsP _))⟩, ⟨⟨(by exact rfl), VL.le (vl rfl) (Pr.le_trans (agg_le (qs := rowQ qA1) ⟨Lr, Lr, Lr, q0_le, trivial⟩) (agg_cellsP _))⟩, ⟨⟨(by exact rfl), VL.le (vl rfl) (Pr.le_trans (agg_le (qs := rowQ qA1) ⟨Lr, Lr, Lr, q0_le, trivial⟩) (agg_cellsP _))⟩, ⟨⟨(by exact rfl), VL.le (vl rfl) (agg_cellsP _)⟩, ⟨⟨(by exact rfl), VL.le (vl rfl) (Pr.le_trans (agg_le (qs := rowQ qA1) ⟨Lr, Lr, Lr, q0_le, trivial⟩) (agg_cellsP _))⟩, ⟨⟨(by exact rfl), VL.le (vl rfl) (agg_cellsP _)⟩, ⟨⟨(by exact rfl), VL.le (vl rfl) (Pr.le_trans (agg_le (qs := rowQ qA1) ⟨Lr, Lr, Lr, q0_le, trivial⟩) (agg_cellsP _))⟩, ⟨⟨(by exact rfl), VL.le (vl rfl) (Pr.le_trans (agg_le (qs := rowQ qA1) ⟨Lr, Lr, Lr, q0_le, trivial⟩) (agg_cellsP _))⟩, ⟨⟨(by exact rfl), VL.le (vl rfl) (Pr.le_trans (agg_le (qs := rowQ qA1) ⟨Lr, Lr, Lr, q0_le, trivial⟩) (agg_cellsP _))⟩, ⟨⟨(by exact rfl), VL.le (vl rfl) (Pr.le_trans (agg_le (qs := rowQ qA1) ⟨Lr, Lr, Lr, q0_le, trivial⟩) (agg_cellsP _))⟩, ⟨⟨(by exact rfl), VL.le (vl rfl) (agg_cellsP _)⟩, trivial⟩⟩⟩⟩⟩⟩⟩⟩⟩⟩⟩ (by decide)) ?_
 refine xo rfl (fun _ => ok_call rfl (w_rList (m := 11) (q := qA1) (by omega) (rc2 _ (by omega))) ⟨(Kf rfl), trivial⟩) ?_
 refine Cx.ef0 1 rfl rfl (ef_store rfl rfl (vl rfl) (Va rfl) sz223 rfl (by exact Nb rfl) rfl) ?_
 refine Cx.nil ⟨by kernel_rfl, ?_⟩
 refine FinX.done al2 (Fin.go (wk1 2 rfl (Tr.ret (Fin.retX1 rfl (RVal.cell 1 rfl rfl agg223 sz223 rfl (Lr)) ?_))))
 · exact Lr
theorem w_R3Bytes {c : Crt} (hv : validB c = true) (ht : c.tiny) : Fun prog 160 [agg (rowCr c)] (tup [bytesE 3285282, anyK .i64]) := by
 refine fo func160 rfl ⟨rfl, rfl⟩ fun M0 w0 => ?_
 refine a2 ?_
 refine co rfl (kc1 (w_R3Check hv) rfl rfl) ?_
 refine an ?_ ?_ <;> intro h1 q1
 exact absurd h1 (by decide)
 refine a2 ?_
 refine co rfl (kc1 (w_R3body hv ht) rfl rfl) (co rfl (kc1 (rE2) rfl rfl) ?_)
 refine ac ?_
 refine Tr.ret (Fin.ret2 rfl (OutW.bse _ _) rfl ?_ rfl ?_)
 · exact Lr
 · exact Lr
theorem w_R3Sum {m : Nat} (hm : m ≤ 100000000) : Fun prog 161 [bts m] (sumE) := by
 refine fo func161 rfl ⟨rfl, rfl⟩ fun M0 w0 => ?_
 have hlr : (List.replicate m u8R).length = m := List.length_replicate
 refine a3 ?_
 refine Tr.block (Tr.loopw [(0, _)] ⟨ke rfl, trivial⟩ (fun k : Nat => [(4, int ((k : Nat) : Int)), (3, u32R)]) (fun k : Nat => k ≤ ((List.replicate m u8R).length)) (fun k : Nat => ((List.replicate m u8R).length) - k) 0 (Nat.zero_le _) ⟨ke rfl, ⟨_, rfl, ex_in _ (fact_in (by omega) (Lr))⟩, trivial⟩ ?_)
 rintro k hle_k
 refine ac ?_
 refine co rfl (ok_len rfl underlying198 (vl rfl)) ?_
 refine an ?_ ?_ <;> intro h1 q1
 have hk_k : k < ((List.replicate m u8R).length) := lt_of_dec h1
 have hkm : k < m := by simpa using hk_k
 refine a2 ?_
 refine co rfl (ok_indexAddr rfl underlying198 sz5 (vl rfl) (vl rfl) (by omega) (rep_at hkm)) (co rfl (kl1 rfl one5 rfl) (co rfl (ok_convK rfl underlying5 underlying225 (vl rfl)) (co rfl (ok_bits (by decide) rfl (VL.le (vl rfl) u32_any) (vl rfl)) (co rfl (ok_mulU rfl (vl rfl) (VL.le (vl rfl) (is_anyK _ _))) ?_))))
 refine ac ?_
 refine wk3 0 3 4 rfl ?_
 refine ac ?_
 exact Fin.fam_same (k + 1) ⟨hk_k, by omega⟩ ⟨⟨_, rfl, int_succ k⟩, ke rfl, ke rfl, trivial⟩
 have he_k : k = ((List.replicate m u8R).length) := by have := ge_of_dec h1; omega
 refine a2 ?_
 refine co rfl (ok_conv32 rfl underlying225 underlying3 (vl rfl)) ?_
 refine a2 ?_
 · exact Lr
theorem w_R3Copy {c : Crt} (hn : c.names.length ≤ 1000) : Fun prog 158 [agg (rowCr c)] (agg (rowCr c)) := by
 refine fo func158 rfl ⟨rfl, rfl⟩ fun M0 w0 => (Tr.seq (Tr.regT ?_))
 refine TO.boxm rfl rfl (by decide) rfl (Va rfl) (fun b1 => ?_)
 refine Tl rfl rfl rfl rfl z131 zo131 (fun b2 => ?_)
 refine ap ?_
 refine ap ?_
 refine TO.pad ?_
 refine TO.efs 0 rfl rfl (by decide) (eApp rfl rfl rfl rfl underlying74 sz9 by9 z9 (Kf rfl) (vl rfl) (appR_full (by exact List.Mem.head _) (vl rfl))) (fun v1 => ?_)
 refine ap ?_
 refine ap ?_
 refine Tr.drop 2 (Tr.ret (Fin.retX1 rfl (RVal.cell 1 rfl rfl agg131 sz131 rfl (Lr)) ?_))
 · exact agg_le ⟨Lr, Lr, Lr, Lr, Lr, Lr, Lr, Lr, Lr, Lr, Lr, Lr, Pr.le_trans (andIs_le _ _) (Pr.le_of_eq (by simp)), Lr, Lr, trivial⟩
abbrev sealed (c : Crt) (key s : Int) : Crt := ⟨c.serial, c.issuer, c.subject, c.kalg, c.kbits, c.keyId, c.halg, c.hbits, c.from_, c.to_, c.auth, c.path, c.names, key, s⟩

theorem w_R3Sign {c : Crt} {key : Int} (hv : validB (sealed c 0 0) = true) (ht : (sealed c 0 0).tiny) (hk : 0 ≤ key ∧ key ≤ 2147483648) : Fun prog 111 [agg (rowCr c), int key] (Cp.ex fun s : Int => fact (0 ≤ s ∧ s < 4294967296) (tup [agg (rowCr (sealed c key s)), int 0])) := by
 refine Fun.of func111 rfl rfl (by exact Nb rfl) fun M0 w0 => ?_
 have hnn : c.names.length ≤ 1000 := by have := (vf_of hv).nm; unfold namesB at this; simp at this; omega
 refine Tr.seq (Tr.regT ?_)
 refine TO.boxm rfl rfl (by decide) rfl (Va rfl) (fun b1 => ?_)
 refine Tl rfl rfl rfl rfl z131 zo131 (fun b2 => ?_)
 refine tm rfl (TO.nil (Fin.go (Tr.seq (Tr.regT (TO.rd 1 rfl rfl rfl (by decide) (rd_loadA rfl agg131 sz131 (vl rfl) rfl rfl) ?_)))))
 refine tp rfl (ok_call rfl (w_R3Copy (c := c) hnn) ⟨ke rfl, trivial⟩) ?_
 refine TO.store_all 1 rfl rfl rfl (vl rfl) (Va rfl) rfl sz131 rfl rfl (TO.nil (Fin.go (Tr.seq (Tr.regT (tp rfl (ok_build (rows := []) rfl bl129 zo129 trivial rfl) (tp rfl (okp_fieldAddr rfl fo131_11 (vl rfl)) (TO.ef0 1 rfl rfl (ef_store rfl rfl (vl rfl) (Va rfl) sz129 rfl (by exact Nb rfl) rfl) (TO.nil (Fin.go (Tr.seq (Tr.seq (Tr.reg0 (co rfl (ok_rd 1 rfl (rd_loadA rfl agg131 sz131 (vl rfl) rfl rfl)) ?_)))))))))))))
 refine co rfl (ok_call rfl (w_R3Check (c := sealed c 0 0) hv) ⟨ke rfl, trivial⟩) ?_
 refine co rfl (ki rfl rfl rfl rfl) (cm rfl ?_)
 refine Ch.cs 15 rfl ?_ ?_ <;> intro h1 q1
 exact absurd h1 (by decide)
 refine cym h1 rfl (cy h1 rfl (ki rfl rfl rfl rfl) (co rfl (kpf rfl rfl h1 rfl) (cm rfl ?_)))
 refine Ch.cs 19 rfl ?_ ?_ <;> intro h2 q2
 exfalso; have := q2; omega
 refine cym h2 rfl (cy h2 rfl (ki rfl rfl rfl rfl) (co rfl (kpf rfl rfl h2 rfl) (Ch.nil (Fin.go (wk4 1 2 4 22 rfl ?_)))))
 refine Tr.cn rfl ?_ ?_ <;> intro h3 q3
 exfalso; have := q3; omega
 refine Tr.skip (Fin.go (Tr.seq (Tr.reg0 (co rfl (ok_rd 1 rfl (rd_loadA rfl agg131 sz131 (vl rfl) rfl rfl)) ?_))))
 refine co rfl (ok_call rfl (w_R3Bytes (c := sealed c 0 0) hv ht) ⟨ke rfl, trivial⟩) ?_
 refine cm rfl (co rfl (ok_extract rfl (vl rfl) rfl) (co rfl (ok_extract rfl (vl rfl) rfl) (cm rfl (cm rfl (Ch.nil (Fin.go (Tr.seq (Tr.regT (tm rfl (tm rfl (tp rfl (ok_call rfl (Fun.bytesE fun m hm => w_R3Sum (by omega)) ⟨ke rfl, trivial⟩) ?_)))))))))))
 refine TO.ex 31 rfl (fun z31 => TO.fact 31 rfl fun hz31 => ?_)
 refine tp rfl (ok_build (rows := [(0, [_]), (1, [_])]) rfl bl129 zo129 ⟨⟨rfl, (Vo rfl)⟩, ⟨⟨rfl, (Vo rfl)⟩, trivial⟩⟩ rfl) (tp rfl (okp_fieldAddr rfl fo131_11 (vl rfl)) (TO.ef0 1 rfl rfl (ef_store rfl rfl (vl rfl) (Va rfl) sz129 rfl (by exact Nb rfl) rfl) (TO.nil (Fin.go (wk2 2 4 rfl (Tr.seq (Tr.regT (TO.rd 1 rfl rfl rfl (by decide) (rd_loadA rfl agg131 sz131 (vl rfl) rfl rfl) (TO.store_all 0 rfl rfl rfl (vl rfl) (Va rfl) rfl sz131 rfl rfl (tm rfl (TO.nil (Fin.go (Tr.drop 1 (Tr.ret ?_))))))))))))))
 refine Fin.retX2 rfl (RVal.cell 0 rfl rfl agg131 sz131 rfl (Lr)) (RVal.tmp rfl (Lr)) ?_
 · exact ex_in z31 (fact_in hz31 (Lr))
abbrev leafC (name : List UInt8) (a b id to key s : Int) : Crt := ⟨id, [114, 111, 111, 116], name, a, b, id, 3, 0, 0, to, false, 0, [name], key, s⟩
abbrev leafI (name : List UInt8) (a b id to key s : Int) : Idn := ⟨a, b, id, [leafC name a b id to key s]⟩
abbrev leafE (name : List UInt8) (a b id to key : Int) : Pr := Cp.ex fun s : Int => fact (0 ≤ s ∧ s < 4294967296) (agg (rowId (leafI name a b id to key s)))
abbrev anyS : Pr := Cp.ex fun l : List UInt8 => str l
abbrev lnkR : List Pr := [anyK .i64, anyK .i64, anyK .i64]
abbrev itemR : List Pr := [anyS, anyK .i64, anyK .i64, (Cp.ex fun m : Nat => slice 3 (List.replicate m lnkR)), anyK .i64]

theorem w_RSA   : Fun prog 66 [] (agg [int 5, int 2048]) := by
 refine fo func66 rfl ⟨rfl, rfl⟩ fun M0 w0 => (Tr.seq (Tr.regT ?_))
 refine Tl rfl rfl rfl rfl z24 zo24 (fun b1 => ?_)
 refine ap ?_
 refine ap ?_
 refine Tr.ret (Fin.retX1 rfl (RVal.cell 0 rfl rfl agg24 sz24 rfl (Lr)) ?_)
 · exact Lr
theorem w_EC   : Fun prog 73 [] (agg [int 7, int 256]) := by
 refine fo func73 rfl ⟨rfl, rfl⟩ fun M0 w0 => (Tr.seq (Tr.regT ?_))
 refine Tl rfl rfl rfl rfl z24 zo24 (fun b1 => ?_)
 refine ap ?_
 refine ap ?_
 refine Tr.ret (Fin.retX1 rfl (RVal.cell 0 rfl rfl agg24 sz24 rfl (Lr)) ?_)
 · exact Lr
theorem w_Leaf {name : List UInt8} {a b id to key : Int} (hv : validB (leafC name a b id to 0 0) = true) (ht : (leafC name a b id to 0 0).tiny) (hk : 0 ≤ key ∧ key ≤ 2147483648) : Fun prog 65 [str name, agg [int a, int b], int id, int key, int to] (leafE name a b id to key) := by
 refine fo func65 rfl ⟨rfl, rfl⟩ fun M0 w0 => (Tr.seq (Tr.regT (tp rfl (ok_box rfl (Va rfl)) ?_)))
 refine Tl rfl rfl rfl rfl z27 zo27 (fun b1 => ?_)
 refine ap ?_
 refine ap ?_
 refine tp rfl (ok_build (rows := [(0, [_]), (1, [_]), (2, [_]), (3, _), (4, [_]), (5, _), (7, [_]), (10, [_])]) rfl bl131 zo131 ⟨⟨rfl, (Vo rfl)⟩, ⟨⟨rfl, (Vo rfl)⟩, ⟨⟨rfl, (Vo rfl)⟩, ⟨⟨rfl, (Va rfl)⟩, ⟨⟨rfl, (Vo rfl)⟩, ⟨⟨rfl, (Va rfl)⟩, ⟨⟨rfl, (Vo rfl)⟩, ⟨⟨rfl, ⟨_, rfl, Pr.le_trans (full_le _ _) (one_cellsP _)⟩⟩, trivial⟩⟩⟩⟩⟩⟩⟩⟩ rfl) (TO.re 20 (agg (rowCr (leafC name a b id to 0 0))) rfl (Pr.le_of_eq rfl) ?_)
 refine Tl rfl rfl rfl rfl z131 zo131 (fun b2 => ?_)
 refine ap ?_
 refine wk5 2 3 6 10 11 rfl ?_
 refine ap ?_
 refine tp rfl (kc2 (w_R3Sign (c := leafC name a b id to 0 0) hv ht hk) rfl rfl rfl) ?_
 refine TO.ex 24 rfl (fun z24 => TO.fact 24 rfl fun hz24 => ?_)
 refine ap ?_
 refine ap ?_
 refine tp rfl (ok_build (rows := [(0, _), (1, [_]), (2, [_])]) rfl bl27 zo27 ⟨⟨rfl, (Va rfl)⟩, ⟨⟨rfl, (Vo rfl)⟩, ⟨⟨rfl, ⟨_, rfl, Pr.le_trans (full_le _ _) (one_cellsP _)⟩⟩, trivial⟩⟩⟩ rfl) ?_
 refine ap ?_
 refine Tr.drop 0 (wk1 10 rfl (Tr.ret (Fin.retX1 rfl (RVal.cell 0 rfl rfl agg27 sz27 rfl (Lr)) ?_)))
 · exact ex_in z24 (fact_in hz24 (Lr))
/-- Some text of a list. -/
def wordOf (s : DS) (l : List (List UInt8)) : List UInt8 := (l[(s.val l.length).toNat]?).getD []

theorem w_DWordE {b : Nat} {s : DS} {l : List (List UInt8)} (hl : l ≠ []) (hl2 : l.length ≤ 1000000000) : FunM prog 68 [ptr b 0, txts l] (str (wordOf s l)) (diceS b s) (fun _ => diceS b s.adv) := by
 refine FunM.of func68 rfl rfl (by exact Nb rfl) fun M0 w0 S rs M1 w1 => ?_
 have hl0 : 1 ≤ (l.length : Int) := by have := List.length_pos_iff.2 hl; omega
 have hv := s.val_in hl0
 obtain ⟨x, hx⟩ := at_ (l := l) (k := (s.val l.length).toNat) (by omega)
 refine ac ?_
 refine ap ?_
 refine TO.efc 0 rfl rfl (by decide) (ef_callc rfl rfl (by decide) rfl (w_DNext (by omega) (by omega)) ⟨ke rfl, ke rfl, trivial⟩) (tp rfl (ok_indexAddr rfl underlying74 sz9 (vl rfl) (vl rfl) (by omega) (row_atI hx)) ?_)
 refine ap ?_
 refine Tr.ret (Fin.retY1 [] rfl (RVal.tmp rfl (Lr)) ?_ (fun _ _ _ _ => rfl))
 · refine Pr.le_of_eq ?_; unfold wordOf; rw [hx]; rfl
end Go.Proofs.YtppeeogffbpcbaaGreat
