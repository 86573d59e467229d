/-
  What the functions named below compute, proved from their text; printed by a program of our own.
-/
import Derived.Test.YthmnoekgicggnaaGreatTypes
import Derived.Test.YthmnoekgicggnaaGreatSlices
namespace Go.Proofs.YthmnoekgicggnaaGreat
open Go Go.RowKit Cp

abbrev diceS (b : Nat) (s : DS) : Res := diceR 74 b s
theorem mod_pos (n : Int) {k : Int} (hk : 1 ≤ k) : (n.tmod k + k).tmod k = n % k := by
  have h1 : -k < n.tmod k := by have := Int.lt_tmod_of_pos n (b := k) (by omega); omega
  rw [Int.tmod_eq_emod_of_nonneg (by omega), Int.tmod_def, show n - k * n.tdiv k + k = n + k * (1 - n.tdiv k) by rw [Int.mul_sub]; omega, Int.add_mul_emod_self_left]
theorem mod_in (n : Int) {k : Int} (hk : 1 ≤ k) : -k < n.tmod k ∧ n.tmod k < k := by
  have h1 := Int.lt_tmod_of_pos n (b := k) (by omega)
  have h2 := Int.tmod_lt_of_pos n (b := k) (by omega)
  omega

set_option maxRecDepth 20000 in
theorem w_Light {l : List Int}  : Fun Tryz.prog 8 [ints l] (bool (decide (l.length ≤ 400))) := by
  refine Fun.of Tryz.func8 rfl rfl (by exact Nat.le_of_ble_eq_true rfl) fun M0 w0 => ?_
  refine Tr.seq ?_
  refine Tr.reg0 ?_
  refine Ch.op rfl rfl (by decide) (ok_assign rfl (vl rfl)) ?_
  refine Ch.nil ?_
  refine Fin.go ?_
  refine Tr.seq ?_
  refine Tr.reg0 ?_
  refine Ch.op rfl rfl (by decide) (ok_move rfl (vl rfl)) ?_
  first
    | refine Ch.op rfl rfl (by decide) (ok_lenm rfl Tryz.underlying22 (vl rfl)) ?_
    | refine Ch.op rfl rfl (by decide) (ok_len rfl Tryz.underlying22 (vl rfl)) ?_
  refine Ch.op rfl rfl (by decide) (ok_int rfl (vl rfl) (vl rfl) rfl) ?_
  refine Ch.op rfl rfl (by decide) (ok_assign rfl (vl rfl)) ?_
  refine Ch.nil ?_
  refine Fin.go ?_
  refine Tr.ret ?_
  refine Fin.ret1 rfl (OutW.bse _ _) rfl ?_
  · first | exact Pr.le_refl _ | (refine int_eq ?_; simp_all; done) | (refine bool_eq ?_; simp_all; done) | (refine bool_eq ?_; simp_all; omega) | (refine int_eq ?_; omega)
theorem e_Light : Entry Tryz.prog 8 := ⟨_, Tryz.func8, rfl, rfl⟩
set_option maxRecDepth 20000 in
theorem w_Mod {n k : Int} (hk : 1 ≤ k) (hk2 : k ≤ 1000000000) : Fun Tryz.prog 28 [int n, int k] (int (n % k)) := by
  refine Fun.of Tryz.func28 rfl rfl (by exact Nat.le_of_ble_eq_true rfl) fun M0 w0 => ?_
  have hm := mod_in n hk
  have hp := mod_pos n hk
  refine Tr.seq ?_
  refine Tr.reg0 ?_
  refine Ch.op rfl rfl (by decide) (ok_assign rfl (vl rfl)) ?_
  refine Ch.nil ?_
  refine Fin.go ?_
  refine Tr.seq ?_
  refine Tr.seq ?_
  refine Tr.reg0 ?_
  refine Ch.op rfl rfl (by decide) (ok_move rfl (vl rfl)) ?_
  refine Ch.op rfl rfl (by decide) (ok_int rfl (vl rfl) (vl rfl) rfl) ?_
  refine Ch.nil ?_
  refine Fin.go ?_
  refine Tr.cond rfl (fun h1 => ?_) (fun h1 => ?_)
  ·
    have q1 := Nrm.nrm h1
    refine Tr.seq ?_
    refine Tr.reg0 ?_
    refine Ch.op rfl rfl (by decide) (ok_assign rfl (vl rfl)) ?_
    refine Ch.nil ?_
    refine Fin.go ?_
    refine Tr.ret ?_
    refine Fin.then_ret ?_
    refine Fin.ret1 rfl (OutW.bse _ _) rfl ?_
    · exfalso; omega
  ·
    have q1 := Nrm.nrm h1
    refine Tr.skip ?_
    refine Fin.go ?_
    refine Tr.seq ?_
    refine Tr.reg0 ?_
    refine Ch.op rfl rfl (by decide) (ok_move rfl (vl rfl)) ?_
    refine Ch.op rfl rfl (by decide) (ok_move rfl (vl rfl)) ?_
    refine Ch.op rfl rfl (by decide) (ok_rem rfl (vl rfl) (vl rfl) (by omega)) ?_
    refine Ch.op rfl rfl (by decide) (ok_move rfl (vl rfl)) ?_
    first
      | (refine Ch.op rfl rfl (by decide) (ok_add rfl (vl rfl) (vl rfl) ?hin) ?_; case hin => unfold InI; omega)
      | refine Ch.op rfl rfl (by decide) (ok_int rfl (vl rfl) (vl rfl) rfl) ?_
    refine Ch.op rfl rfl (by decide) (ok_move rfl (vl rfl)) ?_
    refine Ch.op rfl rfl (by decide) (ok_rem rfl (vl rfl) (vl rfl) (by omega)) ?_
    refine Ch.op rfl rfl (by decide) (ok_assign rfl (vl rfl)) ?_
    refine Ch.nil ?_
    refine Fin.go ?_
    refine Tr.ret ?_
    refine Fin.ret1 rfl (OutW.bse _ _) rfl ?_
    · refine int_eq ?_; exact hp
theorem e_Mod : Entry Tryz.prog 28 := ⟨_, Tryz.func28, rfl, rfl⟩
set_option maxRecDepth 20000 in
theorem w_DNext {b : Nat} {s : DS} {n : Int} (hn : 1 ≤ n) (hn2 : n ≤ 1000000000) : FunM Tryz.prog 25 [ptr b 0, int n] (int (s.val n)) (diceS b s) (fun _ => diceS b s.adv) := by
  refine FunM.of Tryz.func25 rfl rfl (by exact Nat.le_of_ble_eq_true rfl) fun M0 w0 S rs M1 w1 => ?_
  have hs := s.h
  have hs2 := s.h2
  refine Tr.seq ?_
  refine Tr.reg0 ?_
  refine Ch.op rfl rfl (by decide) (ok_assign rfl (vl rfl)) ?_
  refine Ch.nil ?_
  refine Fin.go ?_
  refine Tr.seq ?_
  refine Tr.seq ?_
  refine Tr.reg1 mixed (by kernel_rfl) ?_
  refine Ch.op rfl rfl (by decide) (ok_move rfl (vl rfl)) ?_
  refine Ch.op rfl rfl (by decide) (okp_nilCheck rfl (vl rfl)) ?_
  refine Ch.op rfl rfl (by decide) (okp_fieldAddr rfl fo74_1 (vl rfl)) ?_
  refine Ch.op rfl rfl (by decide) (ok_rd 0 rfl (rd_load1 rfl one3 (vl rfl) rfl)) ?_
  refine Ch.op rfl rfl (by decide) (ok_move rfl (vl rfl)) ?_
  refine Ch.op rfl rfl (by decide) (okp_nilCheck rfl (vl rfl)) ?_
  refine Ch.op rfl rfl (by decide) (okp_fieldAddr rfl fo74_0 (vl rfl)) ?_
  refine Ch.op rfl rfl (by decide) (ok_rd 0 rfl (rd_load1 rfl one22 (vl rfl) rfl)) ?_
  first
    | refine Ch.op rfl rfl (by decide) (ok_lenm rfl Tryz.underlying22 (vl rfl)) ?_
    | refine Ch.op rfl rfl (by decide) (ok_len rfl Tryz.underlying22 (vl rfl)) ?_
  refine Ch.op rfl rfl (by decide) (ok_int rfl (vl rfl) (vl rfl) rfl) ?_
  refine Ch.nil ?_
  refine Fin.go ?_
  refine Tr.cond rfl (fun h1 => ?_) (fun h1 => ?_)
  ·
    have q1 := Nrm.nrm h1
    refine Tr.seq ?_
    refine Tr.reg0 ?_
    refine Ch.op rfl rfl (by decide) (ok_assign rfl (vl rfl)) ?_
    refine Ch.nil ?_
    refine Fin.go ?_
    refine Tr.ret ?_
    refine Fin.then_ret ?_
    rw [DS.adv_end (s := s) (by omega)]
    refine Fin.retY1 [] rfl (RVal.tmp rfl (Pr.le_refl _)) ?_ (fun _ _ _ _ => rfl)
    · refine int_eq ?_; exact (DS.val_end (by omega) n).symm
  ·
    have q1 := Nrm.nrm h1
    have hlt : s.at_ < s.l.length := by omega
    obtain ⟨x, hx⟩ := at_ hlt
    refine Tr.skip ?_
    refine Fin.go ?_
    refine Tr.seq ?_
    refine Tr.regT ?_
    refine TO.op rfl rfl (by decide) (ok_move rfl (vl rfl)) ?_
    refine TO.op rfl rfl (by decide) (okp_nilCheck rfl (vl rfl)) ?_
    refine TO.op rfl rfl (by decide) (okp_fieldAddr rfl fo74_1 (vl rfl)) ?_
    refine TO.rd 0 rfl rfl rfl (by decide) (rd_load1 rfl one3 (vl rfl) rfl) ?_
    first
      | (refine TO.op rfl rfl (by decide) (ok_add rfl (vl rfl) (vl rfl) ?hin) ?_; case hin => unfold InI; omega)
      | refine TO.op rfl rfl (by decide) (ok_int rfl (vl rfl) (vl rfl) rfl) ?_
    refine TO.op rfl rfl (by decide) (okp_nilCheck rfl (vl rfl)) ?_
    refine TO.op rfl rfl (by decide) (okp_fieldAddr rfl fo74_1 (vl rfl)) ?_
    refine TO.ef0 0 rfl rfl (ef_store rfl rfl (vl rfl) (VL.le (vl rfl) (one_cellsP _)) sz3 rfl (by exact Nat.le_of_ble_eq_true rfl) rfl) ?_
    refine TO.nil ?_
    refine Fin.go ?_
    refine Tr.weak [(0, _), (1, _)] ⟨⟨_, rfl, Pr.le_refl _⟩, ⟨_, rfl, Pr.le_refl _⟩, trivial⟩ ?_
    refine Tr.seq ?_
    refine Tr.reg1 mixed (by kernel_rfl) ?_
    refine Ch.op rfl rfl (by decide) (ok_move rfl (vl rfl)) ?_
    refine Ch.op rfl rfl (by decide) (okp_nilCheck rfl (vl rfl)) ?_
    refine Ch.op rfl rfl (by decide) (okp_fieldAddr rfl fo74_0 (vl rfl)) ?_
    refine Ch.op rfl rfl (by decide) (ok_rd 0 rfl (rd_load1 rfl one22 (vl rfl) rfl)) ?_
    refine Ch.op rfl rfl (by decide) (ok_move rfl (vl rfl)) ?_
    refine Ch.op rfl rfl (by decide) (okp_nilCheck rfl (vl rfl)) ?_
    refine Ch.op rfl rfl (by decide) (okp_fieldAddr rfl fo74_1 (vl rfl)) ?_
    refine Ch.op rfl rfl (by decide) (ok_rd 0 rfl (rd_load1 rfl one3 (vl rfl) rfl)) ?_
    first
      | (refine Ch.op rfl rfl (by decide) (ok_sub rfl (vl rfl) (vl rfl) ?hin) ?_; case hin => unfold InI; omega)
      | refine Ch.op rfl rfl (by decide) (ok_int rfl (vl rfl) (vl rfl) rfl) ?_
    refine Ch.op rfl rfl (by decide) (ok_indexAddr rfl Tryz.underlying22 sz3 (vl rfl) (vl rfl) (by omega) (by rw [show ((s.at_ : Nat) : Int) + 1 - 1 = ((s.at_ : Nat) : Int) by omega]; exact row_at hx)) ?_
    refine Ch.op rfl rfl (by decide) (ok_load1 rfl one3 (vl rfl)) ?_
    refine Ch.op rfl rfl (by decide) (ok_move rfl (vl rfl)) ?_
    refine Ch.op rfl rfl (by decide) (ok_call rfl (w_Mod (by omega) (by omega)) ⟨⟨_, rfl, Pr.le_refl _⟩, ⟨_, rfl, Pr.le_refl _⟩, trivial⟩) ?_
    refine Ch.op rfl rfl (by decide) (ok_assign rfl (vl rfl)) ?_
    refine Ch.nil ?_
    refine Fin.go ?_
    refine Tr.weak [(4, _)] ⟨⟨_, rfl, Pr.le_refl _⟩, trivial⟩ ?_
    refine Tr.ret ?_
    rw [DS.adv_at hlt]
    refine Fin.retY1 [] rfl (RVal.tmp rfl (Pr.le_refl _)) ?_ (fun _ _ _ _ => rfl)
    · refine int_eq ?_; exact (DS.val_at hx n).symm
theorem e_DNext : Entry Tryz.prog 25 := ⟨_, Tryz.func25, rfl, rfl⟩
set_option maxRecDepth 20000 in
theorem w_DOf {b : Nat} {s : DS} {l : List Int} (hl : l ≠ []) (hl2 : l.length ≤ 1000000000) : FunM Tryz.prog 27 [ptr b 0, ints l] (int (s.of l)) (diceS b s) (fun _ => diceS b s.adv) := by
  refine FunM.of Tryz.func27 rfl rfl (by exact Nat.le_of_ble_eq_true rfl) fun M0 w0 S rs M1 w1 => ?_
  have hl0 : 1 ≤ (l.length : Int) := by have := List.length_pos_iff.2 hl; omega
  have hv := s.val_in hl0
  obtain ⟨x, hx⟩ := at_ (l := l) (k := (s.val l.length).toNat) (by omega)
  refine Tr.seq ?_
  refine Tr.reg0 ?_
  refine Ch.op rfl rfl (by decide) (ok_assign rfl (vl rfl)) ?_
  refine Ch.nil ?_
  refine Fin.go ?_
  refine Tr.seq ?_
  refine Tr.regT ?_
  refine TO.op rfl rfl (by decide) (ok_move rfl (vl rfl)) ?_
  refine TO.op rfl rfl (by decide) (ok_move rfl (vl rfl)) ?_
  refine TO.op rfl rfl (by decide) (ok_move rfl (vl rfl)) ?_
  first
    | refine TO.op rfl rfl (by decide) (ok_lenm rfl Tryz.underlying22 (vl rfl)) ?_
    | refine TO.op rfl rfl (by decide) (ok_len rfl Tryz.underlying22 (vl rfl)) ?_
  refine TO.efc 0 rfl rfl (by decide) (ef_callc rfl rfl (by decide) rfl (w_DNext (by omega) (by omega)) ⟨⟨_, rfl, Pr.le_refl _⟩, ⟨_, rfl, Pr.le_refl _⟩, trivial⟩) ?_
  refine TO.op rfl rfl (by decide) (ok_indexAddr rfl Tryz.underlying22 sz3 (vl rfl) (vl rfl) (by omega) (row_atI hx)) ?_
  refine TO.op rfl rfl (by decide) (ok_load1 rfl one3 (vl rfl)) ?_
  refine TO.op rfl rfl (by decide) (ok_assign rfl (vl rfl)) ?_
  refine TO.nil ?_
  refine Fin.go ?_
  refine Tr.ret ?_
  refine Fin.retY1 [] rfl (RVal.tmp rfl (Pr.le_refl _)) ?_ (fun _ _ _ _ => rfl)
  · refine int_eq ?_; unfold DS.of; rw [hx]; rfl
theorem e_DOf : Entry Tryz.prog 27 := ⟨_, Tryz.func27, rfl, rfl⟩
set_option maxRecDepth 20000 in
theorem w_DOne {b : Nat} {s : DS} {n : Int} (hn : 1 ≤ n) (hn2 : n ≤ 1000000000) : FunM Tryz.prog 26 [ptr b 0, int n] (bool (s.val n == n - 1)) (diceS b s) (fun _ => diceS b s.adv) := by
  refine FunM.of Tryz.func26 rfl rfl (by exact Nat.le_of_ble_eq_true rfl) fun M0 w0 S rs M1 w1 => ?_
  refine Tr.seq ?_
  refine Tr.reg0 ?_
  refine Ch.op rfl rfl (by decide) (ok_assign rfl (vl rfl)) ?_
  refine Ch.nil ?_
  refine Fin.go ?_
  refine Tr.seq ?_
  refine Tr.regT ?_
  refine TO.op rfl rfl (by decide) (ok_move rfl (vl rfl)) ?_
  refine TO.op rfl rfl (by decide) (ok_move rfl (vl rfl)) ?_
  refine TO.efc 0 rfl rfl (by decide) (ef_callc rfl rfl (by decide) rfl (w_DNext (by omega) (by omega)) ⟨⟨_, rfl, Pr.le_refl _⟩, ⟨_, rfl, Pr.le_refl _⟩, trivial⟩) ?_
  refine TO.op rfl rfl (by decide) (ok_move rfl (vl rfl)) ?_
  first
    | (refine TO.op rfl rfl (by decide) (ok_sub rfl (vl rfl) (vl rfl) ?hin) ?_; case hin => unfold InI; omega)
    | refine TO.op rfl rfl (by decide) (ok_int rfl (vl rfl) (vl rfl) rfl) ?_
  refine TO.op rfl rfl (by decide) (ok_int rfl (vl rfl) (vl rfl) rfl) ?_
  refine TO.op rfl rfl (by decide) (ok_assign rfl (vl rfl)) ?_
  refine TO.nil ?_
  refine Fin.go ?_
  refine Tr.ret ?_
  refine Fin.retY1 [] rfl (RVal.tmp rfl (Pr.le_refl _)) ?_ (fun _ _ _ _ => rfl)
  · first | exact Pr.le_refl _ | (refine int_eq ?_; simp_all; done) | (refine bool_eq ?_; simp_all; done) | (refine bool_eq ?_; simp_all; omega) | (refine int_eq ?_; omega)
theorem e_DOne : Entry Tryz.prog 26 := ⟨_, Tryz.func26, rfl, rfl⟩

/-- New dice. -/
def newDice (l : List Int) (hl : l.length ≤ 1000000000) (v : Value) : Res := match v with | .pointer (some a) => diceR 74 a.block ⟨l, 0, Nat.zero_le _, hl⟩ | _ => noRes

set_option maxRecDepth 20000 in
theorem w_Roll {l : List Int} (hl : l.length ≤ 1000000000) : FunM Tryz.prog 10 [ints l] (ex fun b => ptr b 0) (noRes) (newDice l hl) := by
  refine FunM.of Tryz.func10 rfl rfl (by exact Nat.le_of_ble_eq_true rfl) fun M0 w0 S rs M1 w1 => ?_
  refine Tr.seq ?_
  refine Tr.reg0 ?_
  refine Ch.op rfl rfl (by decide) (ok_assign rfl (vl rfl)) ?_
  refine Ch.nil ?_
  refine Fin.go ?_
  refine Tr.seq ?_
  refine Tr.regT ?_
  refine TO.op rfl rfl (by decide) (ok_move rfl (vl rfl)) ?_
  refine TO.op rfl rfl (by decide) (ok_build (rows := [(0, [_])]) rfl bl74 zo74 ⟨⟨rfl, (VL.le (vl rfl) (one_cellsP _))⟩, trivial⟩ rfl) ?_
  refine TO.boxm rfl rfl (by decide) rfl (VL.le (vl rfl) (agg_cellsP _)) (fun b1 => ?_)
  refine TO.op rfl rfl (by decide) (ok_assign rfl (vl rfl)) ?_
  refine TO.nil ?_
  refine Fin.go ?_
  refine Tr.ret ?_
  refine Fin.drop 1 ?_
  refine Fin.retY1 [] rfl (RVal.tmp rfl (Pr.le_refl _)) ?_ (by rintro _ _ _ rfl; rfl)
  · exact ex_in b1 (Pr.le_refl _)
theorem e_Roll : Entry Tryz.prog 10 := ⟨_, Tryz.func10, rfl, rfl⟩
end Go.Proofs.YthmnoekgicggnaaGreat
