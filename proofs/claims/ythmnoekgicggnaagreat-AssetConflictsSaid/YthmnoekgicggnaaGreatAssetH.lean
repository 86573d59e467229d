/-
  What the functions named below compute, proved from their text; printed by a program of our own.
-/
import Derived.Test.YthmnoekgicggnaaGreatTypes
import Derived.Test.YthmnoekgicggnaaGreatSlices
import Derived.Test.YthmnoekgicggnaaGreatEqs
import Derived.Test.YthmnoekgicggnaaGreatFindA
import Derived.Test.YthmnoekgicggnaaGreatFindD
import Derived.Test.YthmnoekgicggnaaGreatSortA
import Derived.Test.YthmnoekgicggnaaGreatSortB
import Derived.Test.YthmnoekgicggnaaGreatAssetA
import Derived.Test.YthmnoekgicggnaaGreatAssetB
import Derived.Test.YthmnoekgicggnaaGreatAssetC
import Derived.Test.YthmnoekgicggnaaGreatAssetD
import Derived.Test.YthmnoekgicggnaaGreatAssetE
import Derived.Test.YthmnoekgicggnaaGreatAssetG
import Derived.Test.YthmnoekgicggnaaGreatCoreX
namespace Go.Proofs.YthmnoekgicggnaaGreat
open Go Go.RowKit Cp

def contraF (a b : Fnd) : Bool := decide (a.kind ≠ b.kind ∨ ((a.kind = 3 ∨ a.kind = 4 ∨ a.kind = 5) ∧ (¬ (a.alg = b.alg ∧ a.bits = b.bits) ∨ ¬ a.num = b.num)))
def fAt (l : List Fnd) (x : Idx l.length) : Fnd := l[x.1.toNat]'(by have := x.2; omega)
theorem fAt_at (l : List Fnd) (x : Idx l.length) : l[x.1.toNat]? = some (fAt l x) := List.getElem?_eq_getElem _
def clash (l : List Fnd) (i k : Idx l.length) : Bool := decide (plcOf (fAt l i) = plcOf (fAt l k)) && (decide ((fAt l i).day = (fAt l k).day) && contraF (fAt l i) (fAt l k))
theorem plc_iff {a b : Plc} : a = b ↔ (a.subj = b.subj ∧ a.text = b.text ∧ a.kind = b.kind ∧ a.num = b.num ∧ a.alg = b.alg ∧ a.bits = b.bits) := by cases a; cases b; simp
theorem clash_iff {l : List Fnd} {i k : Idx l.length} : clash l i k = true ↔ ((plcOf (fAt l i)).subj = (plcOf (fAt l k)).subj ∧ (plcOf (fAt l i)).text = (plcOf (fAt l k)).text ∧ (plcOf (fAt l i)).kind = (plcOf (fAt l k)).kind ∧ (plcOf (fAt l i)).num = (plcOf (fAt l k)).num ∧ (plcOf (fAt l i)).alg = (plcOf (fAt l k)).alg ∧ (plcOf (fAt l i)).bits = (plcOf (fAt l k)).bits) ∧ (fAt l i).day = (fAt l k).day ∧ contraF (fAt l i) (fAt l k) = true := by
  unfold clash; rw [Bool.and_eq_true, Bool.and_eq_true, decide_eq_true_eq, decide_eq_true_eq, plc_iff]
abbrev rowCf (c : Int × Int) : List Pr := [int c.1, int c.2]
abbrev conP (l : List (Int × Int)) : Pr := slice 2 (l.map rowCf)
def conT (l : List Fnd) (i : Idx l.length) (r : List (Idx l.length)) : List (Int × Int) := (r.filter (clash l i)).map fun k => (i.1, k.1)
def confP (l : List Fnd) (kept : List (Idx l.length)) : Nat → List (Int × Int)
  | 0 => []
  | k + 1 => confP l kept k ++ (match kept[k]? with | some i => conT l i (kept.drop (k + 1)) | none => [])
theorem confP_at {l : List Fnd} {kept : List (Idx l.length)} {k : Nat} {i : Idx l.length} (h : kept[k]? = some i) : confP l kept (k + 1) = confP l kept k ++ conT l i (kept.drop (k + 1)) := by
  show _ ++ (match kept[k]? with | some i => conT l i (kept.drop (k + 1)) | none => []) = _
  rw [h]
theorem conT_len (l : List Fnd) (i : Idx l.length) (r : List (Idx l.length)) : (conT l i r).length ≤ r.length := by
  unfold conT; rw [List.length_map]; exact List.length_filter_le _ _
theorem confP_len (l : List Fnd) (kept : List (Idx l.length)) : ∀ k, (confP l kept k).length ≤ k * kept.length
  | 0 => by simp [confP]
  | k + 1 => by
    have ih := confP_len l kept k
    show (confP l kept k ++ (match kept[k]? with | some i => conT l i (kept.drop (k + 1)) | none => [])).length ≤ _
    rw [List.length_append, Nat.add_mul]
    cases kept[k]? with
    | none => simp; omega
    | some i => have := conT_len l i (kept.drop (k + 1)); simp at this ⊢; omega
theorem conT_take {l : List Fnd} {i y : Idx l.length} {r : List (Idx l.length)} {j : Nat} (h : r[j]? = some y) : conT l i (r.take (j + 1)) = conT l i (r.take j) ++ (if clash l i y then [(i.1, y.1)] else []) := by
  unfold conT; rw [filt_take _ h, List.map_append]; cases clash l i y <;> rfl
def keptF (l : List Fnd) (c : Int) (own : List (Idx l.length)) : List (Idx l.length) := own.filter fun x => !decide ((fAt l x).conf < c)
theorem kept_len (l : List Fnd) (c : Int) (own : List (Idx l.length)) : (keptF l c own).length ≤ own.length := List.length_filter_le _ _
theorem drop_rows {n : Nat} (l : List (Idx n)) (k : Nat) : slice 1 ((l.map rowX).drop (((k : Nat) : Int) + 1).toNat) = idxs (l.drop (k + 1)) := by
  rw [show (((k : Nat) : Int) + 1).toNat = k + 1 by omega, ← List.map_drop]
theorem drop_len {n : Nat} (l : List (Idx n)) (k : Nat) : ((((l.map rowX).drop (((k : Nat) : Int) + 1).toNat).length : Nat) : Int) = (((l.drop (k + 1)).length : Nat) : Int) := by
  rw [show (((k : Nat) : Int) + 1).toNat = k + 1 by omega, ← List.map_drop, List.length_map]
def numsTo (m : Nat) : List Int := (List.range m).map fun k => ((k : Nat) : Int)
theorem numsTo_succ (m : Nat) : ((numsTo m).map fun n => [int n]) ++ [[int ((m : Nat) : Int)]] = (numsTo (m + 1)).map fun n => [int n] := by
  unfold numsTo; rw [List.range_succ, List.map_append, List.map_append]; rfl
theorem numsTo_len (m : Nat) : (numsTo m).length = m := by simp [numsTo]

set_option maxRecDepth 20000 in
theorem w_contra {a b : Fnd}  : Fun Tryz.prog 44 [agg (rowF a), agg (rowF b)] (bool (contraF a b)) := by
  refine Fun.of Tryz.func44 rfl rfl (by exact Nat.le_of_ble_eq_true rfl) fun M0 w0 => ?_
  refine Tr.seq ?_
  refine Tr.reg0 ?_
  refine Ch.op rfl rfl (by decide) (ok_box rfl (VL.le (vl rfl) (agg_cellsP _))) ?_
  refine Ch.op rfl rfl (by decide) (ok_box rfl (VL.le (vl rfl) (agg_cellsP _))) ?_
  refine Ch.op rfl rfl (by decide) (ok_assign rfl (vl rfl)) ?_
  refine Ch.nil ?_
  refine Fin.go ?_
  refine Tr.seq ?_
  refine Tr.seq ?_
  refine Tr.reg0 ?_
  refine Ch.op rfl rfl (by decide) (ok_fieldAddr rfl fo42_5 (vl rfl) rfl) ?_
  refine Ch.op rfl rfl (by decide) (ok_load1 rfl one3 (vl rfl)) ?_
  refine Ch.op rfl rfl (by decide) (ok_fieldAddr rfl fo42_5 (vl rfl) rfl) ?_
  refine Ch.op rfl rfl (by decide) (ok_load1 rfl one3 (vl rfl)) ?_
  refine Ch.op rfl rfl (by decide) (ok_int rfl (vl rfl) (vl rfl) rfl) ?_
  refine Ch.nil ?_
  refine Fin.go ?_
  refine Tr.cond rfl (fun h1 => ?_) (fun h1 => ?_)
  ·
    have q1 := Nrm.nrm h1
    refine Tr.seq ?_
    refine Tr.reg0 ?_
    refine Ch.op rfl rfl (by decide) (ok_assign rfl (vl rfl)) ?_
    refine Ch.nil ?_
    refine Fin.go ?_
    refine Tr.ret ?_
    refine Fin.then_ret ?_
    refine Fin.ret1 rfl (OutW.bse _ _) rfl ?_
    · refine bool_eq ?_; unfold contraF; first | (simp_all; done) | (rw [Bool.eq_iff_iff]; simp_all; done)
  ·
    have q1 := Nrm.nrm h1
    refine Tr.skip ?_
    refine Fin.go ?_
    refine Tr.seq ?_
    refine Tr.reg0 ?_
    refine Ch.op rfl rfl (by decide) (ok_fieldAddr rfl fo42_5 (vl rfl) rfl) ?_
    refine Ch.op rfl rfl (by decide) (ok_load1 rfl one3 (vl rfl)) ?_
    refine Ch.op rfl rfl (by decide) (ok_int rfl (vl rfl) (vl rfl) rfl) ?_
    refine Ch.op rfl rfl (by decide) (ok_move rfl (vl rfl)) ?_
    refine Ch.cases 14 rfl (fun h2 => ?_) (fun h2 => ?_)
    ·
      have q2 := Nrm.nrm h2
      refine Ch.no rfl rfl rfl (ne_false h2) rfl (by decide) ?_
      refine Ch.no rfl rfl rfl (ne_false h2) rfl (by decide) ?_
      refine Ch.no rfl rfl rfl (ne_false h2) rfl (by decide) ?_
      refine Ch.op rfl rfl (by decide) (ok_pick_t rfl (vl rfl) h2 (vl rfl)) ?_
      refine Ch.op rfl rfl (by decide) (ok_move rfl (vl rfl)) ?_
      refine Ch.no rfl rfl rfl (by decide) rfl (by decide) ?_
      refine Ch.no rfl rfl rfl (by decide) rfl (by decide) ?_
      refine Ch.no rfl rfl rfl (by decide) rfl (by decide) ?_
      refine Ch.op rfl rfl (by decide) (ok_pick_t rfl (vl rfl) rfl (vl rfl)) ?_
      refine Ch.op rfl rfl (by decide) (ok_assign rfl (vl rfl)) ?_
      refine Ch.nil ?_
      refine Fin.go ?_
      refine Tr.weak [(2, _), (3, _), (5, _)] ⟨⟨_, rfl, Pr.le_refl _⟩, ⟨_, rfl, Pr.le_refl _⟩, ⟨_, rfl, Pr.le_refl _⟩, trivial⟩ ?_
      refine Tr.seq ?_
      refine Tr.reg0 ?_
      refine Ch.op rfl rfl (by decide) (ok_move rfl (vl rfl)) ?_
      refine Ch.op rfl rfl (by decide) (ok_move rfl (vl rfl)) ?_
      refine Ch.cases 25 rfl (fun h3 => ?_) (fun h3 => ?_)
      ·
        have q3 := Nrm.nrm h3
        refine Ch.yes rfl rfl rfl h3 rfl (by decide) (ok_fieldAddr rfl fo42_7 (vl rfl) rfl) ?_
        refine Ch.yes rfl rfl rfl h3 rfl (by decide) (ok_loadA rfl agg38 sz38 (vl rfl) rfl rfl) ?_
        refine Ch.yes rfl rfl rfl h3 rfl (by decide) (ok_fieldAddr rfl fo42_7 (vl rfl) rfl) ?_
        refine Ch.yes rfl rfl rfl h3 rfl (by decide) (ok_loadA rfl agg38 sz38 (vl rfl) rfl rfl) ?_
        refine Ch.yes rfl rfl rfl h3 rfl (by decide) (ok_ne38 rfl (vl rfl) (vl rfl)) ?_
        refine Ch.yes rfl rfl rfl h3 rfl (by decide) (ok_move rfl (vl rfl)) ?_
        refine Ch.cases 31 rfl (fun h4 => ?_) (fun h4 => ?_)
        ·
          have q4 := Nrm.nrm h4
          refine Ch.no rfl rfl rfl (ne_false h4) rfl (by decide) ?_
          refine Ch.no rfl rfl rfl (ne_false h4) rfl (by decide) ?_
          refine Ch.no rfl rfl rfl (ne_false h4) rfl (by decide) ?_
          refine Ch.no rfl rfl rfl (ne_false h4) rfl (by decide) ?_
          refine Ch.no rfl rfl rfl (ne_false h4) rfl (by decide) ?_
          refine Ch.yes rfl rfl rfl h3 rfl (by decide) (ok_pick_t rfl (vl rfl) h4 (vl rfl)) ?_
          refine Ch.op rfl rfl (by decide) (ok_pick_t rfl (vl rfl) h3 (vl rfl)) ?_
          refine Ch.op rfl rfl (by decide) (ok_assign rfl (vl rfl)) ?_
          refine Ch.nil ?_
          refine Fin.go ?_
          refine Tr.weak [(4, _)] ⟨⟨_, rfl, Pr.le_refl _⟩, trivial⟩ ?_
          refine Tr.ret ?_
          refine Fin.ret1 rfl (OutW.bse _ _) rfl ?_
          · refine bool_eq ?_; unfold contraF; first | (simp_all; done) | (rw [Bool.eq_iff_iff]; simp_all; done)
        ·
          have q4 := Nrm.nrm h4
          refine Ch.yes rfl rfl rfl h4 rfl (by decide) (ok_fieldAddr rfl fo42_8 (vl rfl) rfl) ?_
          refine Ch.yes rfl rfl rfl h4 rfl (by decide) (ok_load1 rfl one3 (vl rfl)) ?_
          refine Ch.yes rfl rfl rfl h4 rfl (by decide) (ok_fieldAddr rfl fo42_8 (vl rfl) rfl) ?_
          refine Ch.yes rfl rfl rfl h4 rfl (by decide) (ok_load1 rfl one3 (vl rfl)) ?_
          refine Ch.yes rfl rfl rfl h4 rfl (by decide) (ok_int rfl (vl rfl) (vl rfl) rfl) ?_
          refine Ch.yes rfl rfl rfl h3 rfl (by decide) (ok_pick_f rfl (vl rfl) h4 (vl rfl)) ?_
          refine Ch.op rfl rfl (by decide) (ok_pick_t rfl (vl rfl) h3 (vl rfl)) ?_
          refine Ch.op rfl rfl (by decide) (ok_assign rfl (vl rfl)) ?_
          refine Ch.nil ?_
          refine Fin.go ?_
          refine Tr.weak [(4, _)] ⟨⟨_, rfl, Pr.le_refl _⟩, trivial⟩ ?_
          refine Tr.ret ?_
          refine Fin.ret1 rfl (OutW.bse _ _) rfl ?_
          · refine bool_eq ?_; unfold contraF; first | (simp_all; done) | (rw [Bool.eq_iff_iff]; simp_all; done)
      ·
        have q3 := Nrm.nrm h3
        refine Ch.no rfl rfl rfl (ne_true h3) rfl (by decide) ?_
        refine Ch.no rfl rfl rfl (ne_true h3) rfl (by decide) ?_
        refine Ch.no rfl rfl rfl (ne_true h3) rfl (by decide) ?_
        refine Ch.no rfl rfl rfl (ne_true h3) rfl (by decide) ?_
        refine Ch.no rfl rfl rfl (ne_true h3) rfl (by decide) ?_
        refine Ch.no rfl rfl rfl (ne_true h3) rfl (by decide) ?_
        refine Ch.un rfl rfl rfl rfl (by decide) ?_
        refine Ch.un rfl rfl rfl rfl (by decide) ?_
        refine Ch.un rfl rfl rfl rfl (by decide) ?_
        refine Ch.un rfl rfl rfl rfl (by decide) ?_
        refine Ch.un rfl rfl rfl rfl (by decide) ?_
        refine Ch.no rfl rfl rfl (ne_true h3) rfl (by decide) ?_
        refine Ch.op rfl rfl (by decide) (ok_pick_f rfl (vl rfl) h3 (vl rfl)) ?_
        refine Ch.op rfl rfl (by decide) (ok_assign rfl (vl rfl)) ?_
        refine Ch.nil ?_
        refine Fin.go ?_
        refine Tr.weak [(4, _)] ⟨⟨_, rfl, Pr.le_refl _⟩, trivial⟩ ?_
        refine Tr.ret ?_
        refine Fin.ret1 rfl (OutW.bse _ _) rfl ?_
        · refine bool_eq ?_; unfold contraF; first | (simp_all; done) | (rw [Bool.eq_iff_iff]; simp_all; done)
    ·
      have q2 := Nrm.nrm h2
      refine Ch.yes rfl rfl rfl h2 rfl (by decide) (ok_fieldAddr rfl fo42_5 (vl rfl) rfl) ?_
      refine Ch.yes rfl rfl rfl h2 rfl (by decide) (ok_load1 rfl one3 (vl rfl)) ?_
      refine Ch.yes rfl rfl rfl h2 rfl (by decide) (ok_int rfl (vl rfl) (vl rfl) rfl) ?_
      refine Ch.op rfl rfl (by decide) (ok_pick_f rfl (vl rfl) h2 (vl rfl)) ?_
      refine Ch.op rfl rfl (by decide) (ok_move rfl (vl rfl)) ?_
      refine Ch.cases 19 rfl (fun h5 => ?_) (fun h5 => ?_)
      ·
        have q5 := Nrm.nrm h5
        refine Ch.no rfl rfl rfl (ne_false h5) rfl (by decide) ?_
        refine Ch.no rfl rfl rfl (ne_false h5) rfl (by decide) ?_
        refine Ch.no rfl rfl rfl (ne_false h5) rfl (by decide) ?_
        refine Ch.op rfl rfl (by decide) (ok_pick_t rfl (vl rfl) h5 (vl rfl)) ?_
        refine Ch.op rfl rfl (by decide) (ok_assign rfl (vl rfl)) ?_
        refine Ch.nil ?_
        refine Fin.go ?_
        refine Tr.weak [(2, _), (3, _), (5, _)] ⟨⟨_, rfl, Pr.le_refl _⟩, ⟨_, rfl, Pr.le_refl _⟩, ⟨_, rfl, Pr.le_refl _⟩, trivial⟩ ?_
        refine Tr.seq ?_
        refine Tr.reg0 ?_
        refine Ch.op rfl rfl (by decide) (ok_move rfl (vl rfl)) ?_
        refine Ch.op rfl rfl (by decide) (ok_move rfl (vl rfl)) ?_
        refine Ch.cases 25 rfl (fun h6 => ?_) (fun h6 => ?_)
        ·
          have q6 := Nrm.nrm h6
          refine Ch.yes rfl rfl rfl h6 rfl (by decide) (ok_fieldAddr rfl fo42_7 (vl rfl) rfl) ?_
          refine Ch.yes rfl rfl rfl h6 rfl (by decide) (ok_loadA rfl agg38 sz38 (vl rfl) rfl rfl) ?_
          refine Ch.yes rfl rfl rfl h6 rfl (by decide) (ok_fieldAddr rfl fo42_7 (vl rfl) rfl) ?_
          refine Ch.yes rfl rfl rfl h6 rfl (by decide) (ok_loadA rfl agg38 sz38 (vl rfl) rfl rfl) ?_
          refine Ch.yes rfl rfl rfl h6 rfl (by decide) (ok_ne38 rfl (vl rfl) (vl rfl)) ?_
          refine Ch.yes rfl rfl rfl h6 rfl (by decide) (ok_move rfl (vl rfl)) ?_
          refine Ch.cases 31 rfl (fun h7 => ?_) (fun h7 => ?_)
          ·
            have q7 := Nrm.nrm h7
            refine Ch.no rfl rfl rfl (ne_false h7) rfl (by decide) ?_
            refine Ch.no rfl rfl rfl (ne_false h7) rfl (by decide) ?_
            refine Ch.no rfl rfl rfl (ne_false h7) rfl (by decide) ?_
            refine Ch.no rfl rfl rfl (ne_false h7) rfl (by decide) ?_
            refine Ch.no rfl rfl rfl (ne_false h7) rfl (by decide) ?_
            refine Ch.yes rfl rfl rfl h6 rfl (by decide) (ok_pick_t rfl (vl rfl) h7 (vl rfl)) ?_
            refine Ch.op rfl rfl (by decide) (ok_pick_t rfl (vl rfl) h6 (vl rfl)) ?_
            refine Ch.op rfl rfl (by decide) (ok_assign rfl (vl rfl)) ?_
            refine Ch.nil ?_
            refine Fin.go ?_
            refine Tr.weak [(4, _)] ⟨⟨_, rfl, Pr.le_refl _⟩, trivial⟩ ?_
            refine Tr.ret ?_
            refine Fin.ret1 rfl (OutW.bse _ _) rfl ?_
            · refine bool_eq ?_; unfold contraF; first | (simp_all; done) | (rw [Bool.eq_iff_iff]; simp_all; done)
          ·
            have q7 := Nrm.nrm h7
            refine Ch.yes rfl rfl rfl h7 rfl (by decide) (ok_fieldAddr rfl fo42_8 (vl rfl) rfl) ?_
            refine Ch.yes rfl rfl rfl h7 rfl (by decide) (ok_load1 rfl one3 (vl rfl)) ?_
            refine Ch.yes rfl rfl rfl h7 rfl (by decide) (ok_fieldAddr rfl fo42_8 (vl rfl) rfl) ?_
            refine Ch.yes rfl rfl rfl h7 rfl (by decide) (ok_load1 rfl one3 (vl rfl)) ?_
            refine Ch.yes rfl rfl rfl h7 rfl (by decide) (ok_int rfl (vl rfl) (vl rfl) rfl) ?_
            refine Ch.yes rfl rfl rfl h6 rfl (by decide) (ok_pick_f rfl (vl rfl) h7 (vl rfl)) ?_
            refine Ch.op rfl rfl (by decide) (ok_pick_t rfl (vl rfl) h6 (vl rfl)) ?_
            refine Ch.op rfl rfl (by decide) (ok_assign rfl (vl rfl)) ?_
            refine Ch.nil ?_
            refine Fin.go ?_
            refine Tr.weak [(4, _)] ⟨⟨_, rfl, Pr.le_refl _⟩, trivial⟩ ?_
            refine Tr.ret ?_
            refine Fin.ret1 rfl (OutW.bse _ _) rfl ?_
            · refine bool_eq ?_; unfold contraF; first | (simp_all; done) | (rw [Bool.eq_iff_iff]; simp_all; done)
        ·
          have q6 := Nrm.nrm h6
          refine Ch.no rfl rfl rfl (ne_true h6) rfl (by decide) ?_
          refine Ch.no rfl rfl rfl (ne_true h6) rfl (by decide) ?_
          refine Ch.no rfl rfl rfl (ne_true h6) rfl (by decide) ?_
          refine Ch.no rfl rfl rfl (ne_true h6) rfl (by decide) ?_
          refine Ch.no rfl rfl rfl (ne_true h6) rfl (by decide) ?_
          refine Ch.no rfl rfl rfl (ne_true h6) rfl (by decide) ?_
          refine Ch.un rfl rfl rfl rfl (by decide) ?_
          refine Ch.un rfl rfl rfl rfl (by decide) ?_
          refine Ch.un rfl rfl rfl rfl (by decide) ?_
          refine Ch.un rfl rfl rfl rfl (by decide) ?_
          refine Ch.un rfl rfl rfl rfl (by decide) ?_
          refine Ch.no rfl rfl rfl (ne_true h6) rfl (by decide) ?_
          refine Ch.op rfl rfl (by decide) (ok_pick_f rfl (vl rfl) h6 (vl rfl)) ?_
          refine Ch.op rfl rfl (by decide) (ok_assign rfl (vl rfl)) ?_
          refine Ch.nil ?_
          refine Fin.go ?_
          refine Tr.weak [(4, _)] ⟨⟨_, rfl, Pr.le_refl _⟩, trivial⟩ ?_
          refine Tr.ret ?_
          refine Fin.ret1 rfl (OutW.bse _ _) rfl ?_
          · refine bool_eq ?_; unfold contraF; first | (simp_all; done) | (rw [Bool.eq_iff_iff]; simp_all; done)
      ·
        have q5 := Nrm.nrm h5
        refine Ch.yes rfl rfl rfl h5 rfl (by decide) (ok_fieldAddr rfl fo42_5 (vl rfl) rfl) ?_
        refine Ch.yes rfl rfl rfl h5 rfl (by decide) (ok_load1 rfl one3 (vl rfl)) ?_
        refine Ch.yes rfl rfl rfl h5 rfl (by decide) (ok_int rfl (vl rfl) (vl rfl) rfl) ?_
        refine Ch.op rfl rfl (by decide) (ok_pick_f rfl (vl rfl) h5 (vl rfl)) ?_
        refine Ch.op rfl rfl (by decide) (ok_assign rfl (vl rfl)) ?_
        refine Ch.nil ?_
        refine Fin.go ?_
        refine Tr.weak [(2, _), (3, _), (5, _)] ⟨⟨_, rfl, Pr.le_refl _⟩, ⟨_, rfl, Pr.le_refl _⟩, ⟨_, rfl, Pr.le_refl _⟩, trivial⟩ ?_
        refine Tr.seq ?_
        refine Tr.reg0 ?_
        refine Ch.op rfl rfl (by decide) (ok_move rfl (vl rfl)) ?_
        refine Ch.op rfl rfl (by decide) (ok_move rfl (vl rfl)) ?_
        refine Ch.cases 25 rfl (fun h8 => ?_) (fun h8 => ?_)
        ·
          have q8 := Nrm.nrm h8
          refine Ch.yes rfl rfl rfl h8 rfl (by decide) (ok_fieldAddr rfl fo42_7 (vl rfl) rfl) ?_
          refine Ch.yes rfl rfl rfl h8 rfl (by decide) (ok_loadA rfl agg38 sz38 (vl rfl) rfl rfl) ?_
          refine Ch.yes rfl rfl rfl h8 rfl (by decide) (ok_fieldAddr rfl fo42_7 (vl rfl) rfl) ?_
          refine Ch.yes rfl rfl rfl h8 rfl (by decide) (ok_loadA rfl agg38 sz38 (vl rfl) rfl rfl) ?_
          refine Ch.yes rfl rfl rfl h8 rfl (by decide) (ok_ne38 rfl (vl rfl) (vl rfl)) ?_
          refine Ch.yes rfl rfl rfl h8 rfl (by decide) (ok_move rfl (vl rfl)) ?_
          refine Ch.cases 31 rfl (fun h9 => ?_) (fun h9 => ?_)
          ·
            have q9 := Nrm.nrm h9
            refine Ch.no rfl rfl rfl (ne_false h9) rfl (by decide) ?_
            refine Ch.no rfl rfl rfl (ne_false h9) rfl (by decide) ?_
            refine Ch.no rfl rfl rfl (ne_false h9) rfl (by decide) ?_
            refine Ch.no rfl rfl rfl (ne_false h9) rfl (by decide) ?_
            refine Ch.no rfl rfl rfl (ne_false h9) rfl (by decide) ?_
            refine Ch.yes rfl rfl rfl h8 rfl (by decide) (ok_pick_t rfl (vl rfl) h9 (vl rfl)) ?_
            refine Ch.op rfl rfl (by decide) (ok_pick_t rfl (vl rfl) h8 (vl rfl)) ?_
            refine Ch.op rfl rfl (by decide) (ok_assign rfl (vl rfl)) ?_
            refine Ch.nil ?_
            refine Fin.go ?_
            refine Tr.weak [(4, _)] ⟨⟨_, rfl, Pr.le_refl _⟩, trivial⟩ ?_
            refine Tr.ret ?_
            refine Fin.ret1 rfl (OutW.bse _ _) rfl ?_
            · refine bool_eq ?_; unfold contraF; first | (simp_all; done) | (rw [Bool.eq_iff_iff]; simp_all; done)
          ·
            have q9 := Nrm.nrm h9
            refine Ch.yes rfl rfl rfl h9 rfl (by decide) (ok_fieldAddr rfl fo42_8 (vl rfl) rfl) ?_
            refine Ch.yes rfl rfl rfl h9 rfl (by decide) (ok_load1 rfl one3 (vl rfl)) ?_
            refine Ch.yes rfl rfl rfl h9 rfl (by decide) (ok_fieldAddr rfl fo42_8 (vl rfl) rfl) ?_
            refine Ch.yes rfl rfl rfl h9 rfl (by decide) (ok_load1 rfl one3 (vl rfl)) ?_
            refine Ch.yes rfl rfl rfl h9 rfl (by decide) (ok_int rfl (vl rfl) (vl rfl) rfl) ?_
            refine Ch.yes rfl rfl rfl h8 rfl (by decide) (ok_pick_f rfl (vl rfl) h9 (vl rfl)) ?_
            refine Ch.op rfl rfl (by decide) (ok_pick_t rfl (vl rfl) h8 (vl rfl)) ?_
            refine Ch.op rfl rfl (by decide) (ok_assign rfl (vl rfl)) ?_
            refine Ch.nil ?_
            refine Fin.go ?_
            refine Tr.weak [(4, _)] ⟨⟨_, rfl, Pr.le_refl _⟩, trivial⟩ ?_
            refine Tr.ret ?_
            refine Fin.ret1 rfl (OutW.bse _ _) rfl ?_
            · refine bool_eq ?_; unfold contraF; first | (simp_all; done) | (rw [Bool.eq_iff_iff]; simp_all; done)
        ·
          have q8 := Nrm.nrm h8
          refine Ch.no rfl rfl rfl (ne_true h8) rfl (by decide) ?_
          refine Ch.no rfl rfl rfl (ne_true h8) rfl (by decide) ?_
          refine Ch.no rfl rfl rfl (ne_true h8) rfl (by decide) ?_
          refine Ch.no rfl rfl rfl (ne_true h8) rfl (by decide) ?_
          refine Ch.no rfl rfl rfl (ne_true h8) rfl (by decide) ?_
          refine Ch.no rfl rfl rfl (ne_true h8) rfl (by decide) ?_
          refine Ch.un rfl rfl rfl rfl (by decide) ?_
          refine Ch.un rfl rfl rfl rfl (by decide) ?_
          refine Ch.un rfl rfl rfl rfl (by decide) ?_
          refine Ch.un rfl rfl rfl rfl (by decide) ?_
          refine Ch.un rfl rfl rfl rfl (by decide) ?_
          refine Ch.no rfl rfl rfl (ne_true h8) rfl (by decide) ?_
          refine Ch.op rfl rfl (by decide) (ok_pick_f rfl (vl rfl) h8 (vl rfl)) ?_
          refine Ch.op rfl rfl (by decide) (ok_assign rfl (vl rfl)) ?_
          refine Ch.nil ?_
          refine Fin.go ?_
          refine Tr.weak [(4, _)] ⟨⟨_, rfl, Pr.le_refl _⟩, trivial⟩ ?_
          refine Tr.ret ?_
          refine Fin.ret1 rfl (OutW.bse _ _) rfl ?_
          · refine bool_eq ?_; unfold contraF; first | (simp_all; done) | (rw [Bool.eq_iff_iff]; simp_all; done)
theorem e_contra : Entry Tryz.prog 44 := ⟨_, Tryz.func44, rfl, rfl⟩
set_option maxRecDepth 20000 in
theorem w_Conf1 {l : List Fnd} {c : Int} {x : Idx l.length}  : Fun Tryz.prog 43 [int x.1, ref [fnds l], ref [int c]] (bool (decide ((fAt l x).conf < c))) := by
  refine Fun.of Tryz.func43 rfl rfl (by exact Nat.le_of_ble_eq_true rfl) fun M0 w0 => ?_
  have hx := fAt_at l x
  have hxp := x.2
  refine Tr.seq ?_
  refine Tr.reg0 ?_
  refine Ch.op rfl rfl (by decide) (ok_assign rfl (vl rfl)) ?_
  refine Ch.nil ?_
  refine Fin.go ?_
  refine Tr.seq ?_
  refine Tr.reg1 mixed (by kernel_rfl) ?_
  refine Ch.op rfl rfl (by decide) (ok_load1 rfl one27 (vl rfl)) ?_
  refine Ch.op rfl rfl (by decide) (ok_move rfl (vl rfl)) ?_
  refine Ch.op rfl rfl (by decide) (ok_indexAddr rfl Tryz.underlying27 sz42 (vl rfl) (vl rfl) (by omega) (row_atI hx)) ?_
  refine Ch.op rfl rfl (by decide) (ok_fieldAddr rfl fo42_4 (vl rfl) rfl) ?_
  refine Ch.op rfl rfl (by decide) (ok_load1 rfl one3 (vl rfl)) ?_
  refine Ch.op rfl rfl (by decide) (ok_load1 rfl one3 (vl rfl)) ?_
  refine Ch.op rfl rfl (by decide) (ok_int rfl (vl rfl) (vl rfl) rfl) ?_
  refine Ch.op rfl rfl (by decide) (ok_assign rfl (vl rfl)) ?_
  refine Ch.nil ?_
  refine Fin.go ?_
  refine Tr.ret ?_
  refine Fin.ret1 rfl (OutW.bse _ _) rfl ?_
  · first | exact Pr.le_refl _ | (refine int_eq ?_; simp_all; done) | (refine bool_eq ?_; simp_all; done) | (refine bool_eq ?_; simp_all; omega) | (refine int_eq ?_; omega)
theorem e_Conf1 : Entry Tryz.prog 43 := ⟨_, Tryz.func43, rfl, rfl⟩
set_option maxRecDepth 20000 in
theorem w_DeleteI0 {n : Nat} {p : Idx n → Bool}  : Fun Tryz.prog 42 [ints [], clo Tryz.prog (fun x : Idx n => [int x.1]) (fun x => bool (p x))] (ints []) := by
  refine Fun.of Tryz.func42 rfl rfl (by exact Nat.le_of_ble_eq_true rfl) fun M0 w0 => ?_
  refine Tr.seq ?_
  refine Tr.reg0 ?_
  refine Ch.op rfl rfl (by decide) (ok_assign rfl (vl rfl)) ?_
  refine Ch.nil ?_
  refine Fin.go ?_
  refine Tr.seq ?_
  refine Tr.reg0 ?_
  refine Ch.op rfl rfl (by decide) (ok_move rfl (vl rfl)) ?_
  refine Ch.op rfl rfl (by decide) (ok_move rfl (vl rfl)) ?_
  refine Ch.op rfl rfl (by decide) (ok_call rfl (w_IndexFuncX (l := []) (p := p)) ⟨⟨_, rfl, Pr.le_refl _⟩, ⟨_, rfl, Pr.le_refl _⟩, trivial⟩) ?_
  refine Ch.op rfl rfl (by decide) (ok_assign rfl (vl rfl)) ?_
  refine Ch.nil ?_
  refine Fin.go ?_
  refine Tr.seq ?_
  refine Tr.seq ?_
  refine Tr.reg0 ?_
  refine Ch.op rfl rfl (by decide) (ok_move rfl (vl rfl)) ?_
  refine Ch.op rfl rfl (by decide) (ok_int rfl (vl rfl) (vl rfl) rfl) ?_
  refine Ch.nil ?_
  refine Fin.go ?_
  refine Tr.cond rfl (fun h1 => ?_) (fun h1 => ?_)
  ·
    have q1 := Nrm.nrm h1
    refine Tr.seq ?_
    refine Tr.reg0 ?_
    refine Ch.op rfl rfl (by decide) (ok_move rfl (vl rfl)) ?_
    refine Ch.op rfl rfl (by decide) (ok_assign rfl (vl rfl)) ?_
    refine Ch.nil ?_
    refine Fin.go ?_
    refine Tr.ret ?_
    refine Fin.then_ret ?_
    refine Fin.ret1 rfl (OutW.bse _ _) rfl ?_
    · first | exact Pr.le_refl _ | (refine int_eq ?_; simp_all; done) | (refine bool_eq ?_; simp_all; done) | (refine bool_eq ?_; simp_all; omega) | (refine int_eq ?_; omega)
  ·
    have q1 := Nrm.nrm h1
    exfalso; simp [idx] at h1
theorem e_DeleteI0 : Entry Tryz.prog 42 := ⟨_, Tryz.func42, rfl, rfl⟩
set_option maxRecDepth 20000 in
theorem w_Conf0 {l : List Fnd} {n c : Int} (hN : NormP l) (hf : ∀ f ∈ l, f.fits) (hc : 1 ≤ c ∧ c ≤ 100) : Fun Tryz.prog 23 [fnds l, entP n [], int c] (tup [conP [], int 0]) := by
  refine Fun.of Tryz.func23 rfl rfl (by exact Nat.le_of_ble_eq_true rfl) fun M0 w0 => ?_
  haveI := Classical.propDecidable (NormP l)
  have hNl := hN.len
  obtain ⟨hc1, hc2⟩ := hc
  have hin : InR [] l.length := by intro i hi; cases hi
  refine Tr.seq ?_
  refine Tr.reg0 ?_
  refine Ch.op rfl rfl (by decide) (ok_box rfl (VL.le (vl rfl) (one_cellsP _))) ?_
  refine Ch.op rfl rfl (by decide) (ok_box rfl (VL.le (vl rfl) (agg_cellsP _))) ?_
  refine Ch.op rfl rfl (by decide) (ok_box rfl (VL.le (vl rfl) (one_cellsP _))) ?_
  refine Ch.op rfl rfl (by decide) (ok_assign rfl (vl rfl)) ?_
  refine Ch.op rfl rfl (by decide) (ok_assign rfl (vl rfl)) ?_
  refine Ch.nil ?_
  refine Fin.go ?_
  refine Tr.seq ?_
  refine Tr.reg0 ?_
  refine Ch.op rfl rfl (by decide) (ok_load1 rfl one27 (vl rfl)) ?_
  refine Ch.op rfl rfl (by decide) (ok_loadA rfl agg35 sz35 (vl rfl) rfl rfl) ?_
  refine Ch.op rfl rfl (by decide) (ok_call rfl (w_indices48 (own := []) (by intro j x y h; simp at h) (by simp)) ⟨⟨_, rfl, Pr.le_refl _⟩, ⟨_, rfl, Pr.le_refl _⟩, trivial⟩) ?_
  refine Ch.op rfl rfl (by decide) (ok_move rfl (vl rfl)) ?_
  refine Ch.op rfl rfl (by decide) (ok_extract rfl (vl rfl) rfl) ?_
  refine Ch.op rfl rfl (by decide) (ok_extract rfl (vl rfl) rfl) ?_
  refine Ch.op rfl rfl (by decide) (ok_assign rfl (vl rfl)) ?_
  refine Ch.op rfl rfl (by decide) (ok_assign rfl (vl rfl)) ?_
  refine Ch.nil ?_
  refine Fin.go ?_
  refine Tr.seq ?_
  refine Tr.block ?_
  refine Tr.seq ?_
  refine Tr.reg0 ?_
  refine Ch.op rfl rfl (by decide) (ok_load1 rfl one27 (vl rfl)) ?_
  refine Ch.op rfl rfl (by decide) (ok_call rfl (w_FNormal (by assumption)) ⟨⟨_, rfl, Pr.le_refl _⟩, trivial⟩) ?_
  refine Ch.op rfl rfl (by decide) (ok_not rfl (vl rfl)) ?_
  refine Ch.op rfl rfl (by decide) (ok_assign rfl (vl rfl)) ?_
  refine Ch.nil ?_
  refine Fin.go ?_
  refine Tr.weak [(3, _), (5, _), (8, _), (9, _), (21, _)] ⟨⟨_, rfl, Pr.le_refl _⟩, ⟨_, rfl, Pr.le_refl _⟩, ⟨_, rfl, Pr.le_refl _⟩, ⟨_, rfl, Pr.le_refl _⟩, ⟨_, rfl, Pr.le_refl _⟩, trivial⟩ ?_
  refine Tr.cond rfl (fun h1 => ?_) (fun h1 => ?_)
  ·
    have q1 := Nrm.nrm h1
    exfalso; simp_all
  ·
    have q1 := Nrm.nrm h1
    refine Tr.seq ?_
    refine Tr.reg0 ?_
    refine Ch.op rfl rfl (by decide) (ok_load1 rfl one3 (vl rfl)) ?_
    refine Ch.op rfl rfl (by decide) (ok_int rfl (vl rfl) (vl rfl) rfl) ?_
    refine Ch.op rfl rfl (by decide) (ok_move rfl (vl rfl)) ?_
    refine Ch.cases 28 rfl (fun h2 => ?_) (fun h2 => ?_)
    ·
      have q2 := Nrm.nrm h2
      exfalso; omega
    ·
      have q2 := Nrm.nrm h2
      refine Ch.yes rfl rfl rfl h2 rfl (by decide) (ok_load1 rfl one3 (vl rfl)) ?_
      refine Ch.yes rfl rfl rfl h2 rfl (by decide) (ok_int rfl (vl rfl) (vl rfl) rfl) ?_
      refine Ch.op rfl rfl (by decide) (ok_pick_f rfl (vl rfl) h2 (vl rfl)) ?_
      refine Ch.op rfl rfl (by decide) (ok_assign rfl (vl rfl)) ?_
      refine Ch.nil ?_
      refine Fin.go ?_
      refine Tr.cond rfl (fun h3 => ?_) (fun h3 => ?_)
      ·
        have q3 := Nrm.nrm h3
        exfalso; omega
      ·
        have q3 := Nrm.nrm h3
        refine Tr.seq ?_
        refine Tr.reg0 ?_
        refine Ch.op rfl rfl (by decide) (ok_move rfl (vl rfl)) ?_
        refine Ch.op rfl rfl (by decide) (ok_not rfl (vl rfl)) ?_
        refine Ch.op rfl rfl (by decide) (ok_assign rfl (vl rfl)) ?_
        refine Ch.nil ?_
        refine Fin.go ?_
        refine Tr.weak [(3, _), (5, _), (8, _), (32, _)] ⟨⟨_, rfl, Pr.le_refl _⟩, ⟨_, rfl, Pr.le_refl _⟩, ⟨_, rfl, Pr.le_refl _⟩, ⟨_, rfl, Pr.le_refl _⟩, trivial⟩ ?_
        refine Tr.cond rfl (fun h4 => ?_) (fun h4 => ?_)
        ·
          have q4 := Nrm.nrm h4
          exfalso; simp_all
        ·
          have q4 := Nrm.nrm h4
          refine Tr.skip ?_
          refine Fin.block ?_
          refine Fin.go ?_
          refine Tr.seq ?_
          refine Tr.reg0 ?_
          refine Ch.op rfl rfl (by decide) (ok_move rfl (vl rfl)) ?_
          refine Ch.op rfl rfl (by decide) (ok_makeFunc rfl rfl) ?_
          refine Ch.op rfl rfl (by decide) (ok_call rfl (w_DeleteI0 (n := l.length) (p := fun x => decide ((fAt l x).conf < c))) ⟨⟨_, rfl, Pr.le_refl _⟩, ⟨_, rfl, fn_le_clo e_Conf1 (fun x => w_Conf1 (l := l) (c := c) (x := x))⟩, trivial⟩) ?_
          refine Ch.op rfl rfl (by decide) (ok_assign rfl (vl rfl)) ?_
          refine Ch.nil ?_
          refine Fin.go ?_
          refine Tr.seq ?_
          refine Tr.reg0 ?_
          refine Ch.op rfl rfl (by decide) (ok_assign rfl (vl rfl)) ?_
          refine Ch.nil ?_
          refine Fin.go ?_
          refine Tr.seq ?_
          refine Tr.seq ?_
          refine Tr.reg0 ?_
          refine Ch.op rfl rfl (by decide) (ok_move rfl (vl rfl)) ?_
          first
            | refine Ch.op rfl rfl (by decide) (ok_lenm rfl Tryz.underlying22 (vl rfl)) ?_
            | refine Ch.op rfl rfl (by decide) (ok_len rfl Tryz.underlying22 (vl rfl)) ?_
          refine Ch.op rfl rfl (by decide) (ok_move rfl (vl rfl)) ?_
          refine Ch.nil ?_
          refine Fin.go ?_
          refine Tr.block ?_
          refine Tr.loopw [(3, _), (8, _), (38, _), (39, _)] ⟨⟨_, rfl, Pr.le_refl _⟩, ⟨_, rfl, Pr.le_refl _⟩, ⟨_, rfl, Pr.le_refl _⟩, ⟨_, rfl, Pr.le_refl _⟩, trivial⟩ (fun (u : Unit) => [(40, int 0), (10, is (.slice none 0 0))]) (fun (u : Unit) => True) (fun (u : Unit) => 0) () (trivial) ⟨⟨_, rfl, Pr.le_refl _⟩, ⟨_, rfl, Pr.le_refl _⟩, trivial⟩ ?_
          rintro u _
          refine Tr.seq ?_
          refine Tr.reg0 ?_
          refine Ch.op rfl rfl (by decide) (ok_int rfl (vl rfl) (vl rfl) rfl) ?_
          refine Ch.nil ?_
          refine Fin.go ?_
          refine Tr.seq ?_
          refine Tr.cond rfl (fun h5 => ?_) (fun h5 => ?_)
          ·
            have q5 := Nrm.nrm h5
            have := h5
            exfalso; have := lt_of_dec h5; simp at this
          ·
            have q5 := Nrm.nrm h5
            have := h5
            refine Tr.exit ?_
            refine Fin.then_exit ?_
            refine Fin.then_exit ?_
            refine Fin.block_here ?_
            refine Fin.go ?_
            refine Tr.seq ?_
            refine Tr.reg0 ?_
            refine Ch.op rfl rfl (by decide) (ok_move rfl (vl rfl)) ?_
            refine Ch.op rfl rfl (by decide) (ok_assign rfl (vl rfl)) ?_
            refine Ch.op rfl rfl (by decide) (ok_assign rfl (vl rfl)) ?_
            refine Ch.nil ?_
            refine Fin.go ?_
            refine Tr.ret ?_
            refine Fin.ret2 rfl (OutW.bse _ _) rfl ?_ rfl ?_
            · exact nil_slice 2
            · first | exact Pr.le_refl _ | (refine int_eq ?_; simp_all; done) | (refine bool_eq ?_; simp_all; done) | (refine bool_eq ?_; simp_all; omega) | (refine int_eq ?_; omega)
theorem e_Conf0 : Entry Tryz.prog 23 := ⟨_, Tryz.func23, rfl, rfl⟩
set_option maxRecDepth 20000 in
theorem w_ConfN {l : List Fnd} {n c : Int} {own : List (Idx l.length)} (hN : NormP l) (hf : ∀ f ∈ l, f.fits) (hc : 1 ≤ c ∧ c ≤ 100) (ha : Asc (vals own)) (h0 : own ≠ []) (hs : own.length < 50) : Fun Tryz.prog 23 [fnds l, agg [int n, any, any, idxs own], int c] (tup [conP (confP l (keptF l c own) (keptF l c own).length), int 0]) := by
  refine Fun.of Tryz.func23 rfl rfl (by exact Nat.le_of_ble_eq_true rfl) fun M0 w0 => ?_
  haveI := Classical.propDecidable (NormP l)
  have hNl := hN.len
  obtain ⟨hc1, hc2⟩ := hc
  refine Tr.seq ?_
  refine Tr.reg0 ?_
  refine Ch.op rfl rfl (by decide) (ok_box rfl (VL.le (vl rfl) (one_cellsP _))) ?_
  refine Ch.op rfl rfl (by decide) (ok_box rfl (VL.le (vl rfl) (agg_cellsP _))) ?_
  refine Ch.op rfl rfl (by decide) (ok_box rfl (VL.le (vl rfl) (one_cellsP _))) ?_
  refine Ch.op rfl rfl (by decide) (ok_assign rfl (vl rfl)) ?_
  refine Ch.op rfl rfl (by decide) (ok_assign rfl (vl rfl)) ?_
  refine Ch.nil ?_
  refine Fin.go ?_
  refine Tr.seq ?_
  refine Tr.regT ?_
  refine TO.op rfl rfl (by decide) (ok_load1 rfl one27 (vl rfl)) ?_
  refine TO.op rfl rfl (by decide) (ok_loadA rfl agg35 sz35 (vl rfl) rfl rfl) ?_
  refine TO.pad ?_
  refine TO.efs 0 rfl rfl (by decide) (ef_call rfl rfl (by decide) rfl (w_indicesM (own := own) ha h0 hs) ⟨⟨_, rfl, Pr.le_refl _⟩, ⟨_, rfl, Pr.le_refl _⟩, trivial⟩) (fun v1 => ?_)
  refine TO.openT 18 0 rfl rfl (fun a1 => ?_)
  refine TO.openM 0 rfl fun b1 cap1 sp1 hv1 hg1 hm1 hs1 => ?_
  subst hv1
  refine TO.op rfl rfl (by decide) (ok_move rfl (vl rfl)) ?_
  refine TO.op rfl rfl (by decide) (ok_extract rfl (vl rfl) rfl) ?_
  refine TO.op rfl rfl (by decide) (ok_extract rfl (vl rfl) rfl) ?_
  refine TO.op rfl rfl (by decide) (ok_assign rfl (vl rfl)) ?_
  refine TO.op rfl rfl (by decide) (ok_assign rfl (vl rfl)) ?_
  refine TO.nil ?_
  refine Fin.go ?_
  refine Tr.seq ?_
  refine Tr.block ?_
  refine Tr.seq ?_
  refine Tr.reg0 ?_
  refine Ch.op rfl rfl (by decide) (ok_load1 rfl one27 (vl rfl)) ?_
  refine Ch.op rfl rfl (by decide) (ok_call rfl (w_FNormal (by assumption)) ⟨⟨_, rfl, Pr.le_refl _⟩, trivial⟩) ?_
  refine Ch.op rfl rfl (by decide) (ok_not rfl (vl rfl)) ?_
  refine Ch.op rfl rfl (by decide) (ok_assign rfl (vl rfl)) ?_
  refine Ch.nil ?_
  refine Fin.go ?_
  refine Tr.weak [(3, _), (5, _), (8, _), (9, _), (21, _)] ⟨⟨_, rfl, Pr.le_refl _⟩, ⟨_, rfl, Pr.le_refl _⟩, ⟨_, rfl, Pr.le_refl _⟩, ⟨_, rfl, Pr.le_refl _⟩, ⟨_, rfl, Pr.le_refl _⟩, trivial⟩ ?_
  refine Tr.cond rfl (fun h1 => ?_) (fun h1 => ?_)
  ·
    have q1 := Nrm.nrm h1
    exfalso; simp_all
  ·
    have q1 := Nrm.nrm h1
    refine Tr.seq ?_
    refine Tr.reg0 ?_
    refine Ch.op rfl rfl (by decide) (ok_load1 rfl one3 (vl rfl)) ?_
    refine Ch.op rfl rfl (by decide) (ok_int rfl (vl rfl) (vl rfl) rfl) ?_
    refine Ch.op rfl rfl (by decide) (ok_move rfl (vl rfl)) ?_
    refine Ch.cases 28 rfl (fun h2 => ?_) (fun h2 => ?_)
    ·
      have q2 := Nrm.nrm h2
      exfalso; omega
    ·
      have q2 := Nrm.nrm h2
      refine Ch.yes rfl rfl rfl h2 rfl (by decide) (ok_load1 rfl one3 (vl rfl)) ?_
      refine Ch.yes rfl rfl rfl h2 rfl (by decide) (ok_int rfl (vl rfl) (vl rfl) rfl) ?_
      refine Ch.op rfl rfl (by decide) (ok_pick_f rfl (vl rfl) h2 (vl rfl)) ?_
      refine Ch.op rfl rfl (by decide) (ok_assign rfl (vl rfl)) ?_
      refine Ch.nil ?_
      refine Fin.go ?_
      refine Tr.cond rfl (fun h3 => ?_) (fun h3 => ?_)
      ·
        have q3 := Nrm.nrm h3
        exfalso; omega
      ·
        have q3 := Nrm.nrm h3
        refine Tr.seq ?_
        refine Tr.reg0 ?_
        refine Ch.op rfl rfl (by decide) (ok_move rfl (vl rfl)) ?_
        refine Ch.op rfl rfl (by decide) (ok_not rfl (vl rfl)) ?_
        refine Ch.op rfl rfl (by decide) (ok_assign rfl (vl rfl)) ?_
        refine Ch.nil ?_
        refine Fin.go ?_
        refine Tr.weak [(3, _), (5, _), (8, _), (32, _)] ⟨⟨_, rfl, Pr.le_refl _⟩, ⟨_, rfl, Pr.le_refl _⟩, ⟨_, rfl, Pr.le_refl _⟩, ⟨_, rfl, Pr.le_refl _⟩, trivial⟩ ?_
        refine Tr.cond rfl (fun h4 => ?_) (fun h4 => ?_)
        ·
          have q4 := Nrm.nrm h4
          exfalso; simp_all
        ·
          have q4 := Nrm.nrm h4
          refine Tr.skip ?_
          refine Fin.block ?_
          refine Fin.go ?_
          refine Tr.seq ?_
          refine Tr.regT ?_
          refine TO.op rfl rfl (by decide) (ok_move rfl (vl rfl)) ?_
          refine TO.op rfl rfl (by decide) (ok_makeFunc rfl rfl) ?_
          refine TO.efc 0 rfl rfl (by decide) (ef_callc rfl rfl (by decide) rfl (w_DeleteI (l := own) (p := fun x => decide ((fAt l x).conf < c)) (sp := sp1) h0 hg1 hm1 hs1) ⟨⟨_, rfl, andIs_is _ _⟩, ⟨_, rfl, fn_le_clo e_Conf1 (fun x => w_Conf1 (l := l) (c := c) (x := x))⟩, trivial⟩) ?_
          refine TO.op rfl rfl (by decide) (ok_assign rfl (vl rfl)) ?_
          refine TO.nil ?_
          refine Fin.go ?_
          refine Tr.seq ?_
          have hkl := kept_len l c own
          have hkg : ((keptF l c own).map rowX).length ≤ cap1 := by rw [List.length_map] at hg1 ⊢; omega
          refine Tr.frzS (sz := 1) ((keptF l c own).map rowX) 0 8 rfl rfl (Pr.le_refl _) (map_rows fun _ => rfl) hkg hm1 (by rw [List.length_map] at hs1 hkg ⊢; rw [List.length_append, List.length_map, hs1, flat_len (sz := 1) (fun r hr => by rw [List.eq_of_mem_replicate hr]; rfl), List.length_replicate]; show (own.length - (keptF l c own).length) * 1 + _ = _; rw [List.length_map] at hg1; omega) ?_
          refine Tr.reg0 ?_
          refine Ch.op rfl rfl (by decide) (ok_assign rfl (vl rfl)) ?_
          refine Ch.nil ?_
          refine Fin.go ?_
          refine Tr.seq ?_
          refine Tr.seq ?_
          refine Tr.reg0 ?_
          refine Ch.op rfl rfl (by decide) (ok_move rfl (vl rfl)) ?_
          first
            | refine Ch.op rfl rfl (by decide) (ok_lenm rfl Tryz.underlying22 ⟨_, rfl, andIs_le _ _⟩) ?_
            | refine Ch.op rfl rfl (by decide) (ok_len rfl Tryz.underlying22 ⟨_, rfl, andIs_le _ _⟩) ?_
          refine Ch.op rfl rfl (by decide) (ok_move rfl (vl rfl)) ?_
          refine Ch.nil ?_
          refine Fin.go ?_
          refine Tr.block ?_
          refine Tr.addnil 58 2 ?_
          refine Tr.loopV1 [(3, _), (8, _), (38, _), (39, _)] ⟨⟨_, rfl, Pr.le_refl _⟩, ⟨_, rfl, Pr.le_refl _⟩, ⟨_, rfl, Pr.le_refl _⟩, ⟨_, rfl, Pr.le_refl _⟩, trivial⟩ (fun k v => [(40, int ((k : Nat) : Int)), (10, andIs v (conP (confP l (keptF l c own) k)))]) (fun k v => Hp M0 w0 noS ([appRes 58 2 v, appRes 3 1 (.slice (some ⟨b1, 0, none⟩) ((keptF l c own).map rowX).length cap1)])) (fun k : Nat => k ≤ ((keptF l c own)).length) (fun k : Nat => ((keptF l c own)).length - k) 0 (.slice none 0 0) (Nat.zero_le _) ⟨⟨_, rfl, Pr.le_refl _⟩, ⟨_, rfl, own_nil rfl⟩, trivial⟩ (fun _ _ h => h) ?_
          rintro k v hle_k
          refine Tr.seq ?_
          refine Tr.reg0 ?_
          refine Ch.op rfl rfl (by decide) (ok_int rfl (vl rfl) (vl rfl) rfl) ?_
          refine Ch.nil ?_
          refine Fin.go ?_
          refine Tr.seq ?_
          refine Tr.cond rfl (fun h5 => ?_) (fun h5 => ?_)
          ·
            have q5 := Nrm.nrm h5
            have hk_k : k < ((keptF l c own)).length := lt_of_dec h5
            obtain ⟨i, hx_k⟩ := at_ hk_k
            have hip := i.2
            have hcl := confP_len l (keptF l c own) k
            have hkk : k * (keptF l c own).length ≤ 50 * 50 := Nat.mul_le_mul (by omega) (by omega)
            refine Tr.skip ?_
            refine Fin.go ?_
            refine Tr.seq ?_
            refine Tr.block ?_
            refine Tr.seq ?_
            refine Tr.reg0 ?_
            refine Ch.op rfl rfl (by decide) (ok_move rfl (vl rfl)) ?_
            refine Ch.op rfl rfl (by decide) (ok_indexAddr rfl Tryz.underlying22 sz3 ⟨_, rfl, andIs_le _ _⟩ (vl rfl) (by omega) (row_at hx_k)) ?_
            refine Ch.op rfl rfl (by decide) (ok_load1 rfl one3 (vl rfl)) ?_
            refine Ch.op rfl rfl (by decide) (ok_assign rfl (vl rfl)) ?_
            refine Ch.op rfl rfl (by decide) (ok_assign rfl (vl rfl)) ?_
            refine Ch.nil ?_
            refine Fin.go ?_
            refine Tr.seq ?_
            refine Tr.reg0 ?_
            refine Ch.op rfl rfl (by decide) (ok_move rfl (vl rfl)) ?_
            refine Ch.op rfl rfl (by decide) (ok_move rfl (vl rfl)) ?_
            first
              | (refine Ch.op rfl rfl (by decide) (ok_add rfl (vl rfl) (vl rfl) ?hin) ?_; case hin => unfold InI; omega)
              | refine Ch.op rfl rfl (by decide) (ok_int rfl (vl rfl) (vl rfl) rfl) ?_
            refine Ch.op rfl rfl (by decide) (ok_sliceFrom rfl Tryz.underlying22 sz3 ⟨_, rfl, andIs_le _ _⟩ (vl rfl) (by omega) (by first | omega | (simp; omega))) ?_
            first
              | refine Ch.op rfl rfl (by decide) (ok_lenm rfl Tryz.underlying22 (vl rfl)) ?_
              | refine Ch.op rfl rfl (by decide) (ok_len rfl Tryz.underlying22 (vl rfl)) ?_
            refine Ch.op rfl rfl (by decide) (ok_move rfl (vl rfl)) ?_
            refine Ch.nil ?_
            refine Fin.go ?_
            refine Tr.weak [(3, _), (8, _), (10, _), (12, _), (38, _), (39, _), (40, _), (48, _), (49, _), (50, _)] ⟨⟨_, rfl, Pr.le_refl _⟩, ⟨_, rfl, Pr.le_refl _⟩, ⟨_, rfl, Pr.le_refl _⟩, ⟨_, rfl, Pr.le_refl _⟩, ⟨_, rfl, Pr.le_refl _⟩, ⟨_, rfl, Pr.le_refl _⟩, ⟨_, rfl, Pr.le_refl _⟩, ⟨_, rfl, Pr.le_refl _⟩, ⟨_, rfl, Pr.le_refl _⟩, ⟨_, rfl, Pr.le_refl _⟩, trivial⟩ ?_
            refine Tr.block ?_
            refine Tr.re 48 rfl (Pr.le_of_eq (drop_rows _ _)) ?_
            refine Tr.re 49 rfl (int_eq (drop_len _ _)) ?_
            refine Tr.loopV1 [(3, _), (8, _), (12, _), (38, _), (39, _), (40, _), (48, _), (49, _)] ⟨⟨_, rfl, Pr.le_refl _⟩, ⟨_, rfl, Pr.le_refl _⟩, ⟨_, rfl, Pr.le_refl _⟩, ⟨_, rfl, Pr.le_refl _⟩, ⟨_, rfl, Pr.le_refl _⟩, ⟨_, rfl, Pr.le_refl _⟩, ⟨_, rfl, Pr.le_refl _⟩, ⟨_, rfl, Pr.le_refl _⟩, trivial⟩ (fun j u => [(50, int ((j : Nat) : Int)), (10, andIs u (conP (confP l (keptF l c own) k ++ conT l i (((keptF l c own).drop (k + 1)).take j))))]) (fun j u => Hp M0 w0 noS ([appRes 58 2 u, appRes 3 1 (.slice (some ⟨b1, 0, none⟩) ((keptF l c own).map rowX).length cap1)])) (fun j : Nat => j ≤ (((keptF l c own).drop (k + 1))).length) (fun j : Nat => (((keptF l c own).drop (k + 1))).length - j) 0 v (Nat.zero_le _) ⟨⟨_, rfl, Pr.le_refl _⟩, ⟨_, rfl, own_le (by simp [conT])⟩, trivial⟩ (fun _ _ h => h) ?_
            rintro j u hle_j
            refine Tr.seq ?_
            refine Tr.reg0 ?_
            refine Ch.op rfl rfl (by decide) (ok_int rfl (vl rfl) (vl rfl) rfl) ?_
            refine Ch.nil ?_
            refine Fin.go ?_
            refine Tr.seq ?_
            refine Tr.cond rfl (fun h6 => ?_) (fun h6 => ?_)
            ·
              have q6 := Nrm.nrm h6
              have hk_j : j < (((keptF l c own).drop (k + 1))).length := lt_of_dec h6
              obtain ⟨y, hx_j⟩ := at_ hk_j
              have hdl : ((keptF l c own).drop (k + 1)).length ≤ 50 := by simp; omega
              have hyp := y.2
              have hct := conT_len l i (((keptF l c own).drop (k + 1)).take j)
              have hct2 : (((keptF l c own).drop (k + 1)).take j).length ≤ 50 := by simp; omega
              have hst := conT_take (i := i) hx_j
              refine Tr.skip ?_
              refine Fin.go ?_
              refine Tr.seq ?_
              refine Tr.block ?_
              refine Tr.seq ?_
              refine Tr.reg0 ?_
              refine Ch.op rfl rfl (by decide) (ok_indexAddr rfl Tryz.underlying22 sz3 (vl rfl) (vl rfl) (by omega) (row_at hx_j)) ?_
              refine Ch.op rfl rfl (by decide) (ok_load1 rfl one3 (vl rfl)) ?_
              refine Ch.op rfl rfl (by decide) (ok_assign rfl (vl rfl)) ?_
              refine Ch.nil ?_
              refine Fin.go ?_
              refine Tr.weak [(3, _), (8, _), (10, _), (12, _), (14, _), (38, _), (39, _), (40, _), (48, _), (49, _), (50, _)] ⟨⟨_, rfl, Pr.le_refl _⟩, ⟨_, rfl, Pr.le_refl _⟩, ⟨_, rfl, Pr.le_refl _⟩, ⟨_, rfl, Pr.le_refl _⟩, ⟨_, rfl, Pr.le_refl _⟩, ⟨_, rfl, Pr.le_refl _⟩, ⟨_, rfl, Pr.le_refl _⟩, ⟨_, rfl, Pr.le_refl _⟩, ⟨_, rfl, Pr.le_refl _⟩, ⟨_, rfl, Pr.le_refl _⟩, ⟨_, rfl, Pr.le_refl _⟩, trivial⟩ ?_
              refine Tr.seq ?_
              refine Tr.reg1 mixed (by kernel_rfl) ?_
              refine Ch.op rfl rfl (by decide) (ok_load1 rfl one27 (vl rfl)) ?_
              refine Ch.op rfl rfl (by decide) (ok_move rfl (vl rfl)) ?_
              refine Ch.op rfl rfl (by decide) (ok_indexAddr rfl Tryz.underlying27 sz42 (vl rfl) (vl rfl) (by omega) (row_atI (fAt_at l i))) ?_
              refine Ch.op rfl rfl (by decide) (ok_loadA rfl agg42 sz42 (vl rfl) rfl rfl) ?_
              refine Ch.op rfl rfl (by decide) (ok_call rfl (w_placeOf) ⟨⟨_, rfl, Pr.le_refl _⟩, trivial⟩) ?_
              refine Ch.op rfl rfl (by decide) (ok_load1 rfl one27 (vl rfl)) ?_
              refine Ch.op rfl rfl (by decide) (ok_move rfl (vl rfl)) ?_
              refine Ch.op rfl rfl (by decide) (ok_indexAddr rfl Tryz.underlying27 sz42 (vl rfl) (vl rfl) (by omega) (row_atI (fAt_at l y))) ?_
              refine Ch.op rfl rfl (by decide) (ok_loadA rfl agg42 sz42 (vl rfl) rfl rfl) ?_
              refine Ch.op rfl rfl (by decide) (ok_call rfl (w_placeOf) ⟨⟨_, rfl, Pr.le_refl _⟩, trivial⟩) ?_
              refine Ch.op rfl rfl (by decide) (ok_eq80 rfl (vl rfl) (vl rfl)) ?_
              refine Ch.op rfl rfl (by decide) (ok_move rfl (vl rfl)) ?_
              refine Ch.cases 65 rfl (fun h7 => ?_) (fun h7 => ?_)
              ·
                have q7 := Nrm.nrm h7
                refine Ch.yes rfl rfl rfl h7 rfl (by decide) (ok_load1 rfl one27 (vl rfl)) ?_
                refine Ch.yes rfl rfl rfl h7 rfl (by decide) (ok_move rfl (vl rfl)) ?_
                refine Ch.yes rfl rfl rfl h7 rfl (by decide) (ok_indexAddr rfl Tryz.underlying27 sz42 (vl rfl) (vl rfl) (by omega) (row_atI (fAt_at l i))) ?_
                refine Ch.yes rfl rfl rfl h7 rfl (by decide) (ok_fieldAddr rfl fo42_3 (vl rfl) rfl) ?_
                refine Ch.yes rfl rfl rfl h7 rfl (by decide) (ok_load1 rfl one3 (vl rfl)) ?_
                refine Ch.yes rfl rfl rfl h7 rfl (by decide) (ok_load1 rfl one27 (vl rfl)) ?_
                refine Ch.yes rfl rfl rfl h7 rfl (by decide) (ok_move rfl (vl rfl)) ?_
                refine Ch.yes rfl rfl rfl h7 rfl (by decide) (ok_indexAddr rfl Tryz.underlying27 sz42 (vl rfl) (vl rfl) (by omega) (row_atI (fAt_at l y))) ?_
                refine Ch.yes rfl rfl rfl h7 rfl (by decide) (ok_fieldAddr rfl fo42_3 (vl rfl) rfl) ?_
                refine Ch.yes rfl rfl rfl h7 rfl (by decide) (ok_load1 rfl one3 (vl rfl)) ?_
                refine Ch.yes rfl rfl rfl h7 rfl (by decide) (ok_int rfl (vl rfl) (vl rfl) rfl) ?_
                refine Ch.op rfl rfl (by decide) (ok_pick_t rfl (vl rfl) h7 (vl rfl)) ?_
                refine Ch.op rfl rfl (by decide) (ok_move rfl (vl rfl)) ?_
                refine Ch.cases 78 rfl (fun h8 => ?_) (fun h8 => ?_)
                ·
                  have q8 := Nrm.nrm h8
                  refine Ch.yes rfl rfl rfl h8 rfl (by decide) (ok_load1 rfl one27 (vl rfl)) ?_
                  refine Ch.yes rfl rfl rfl h8 rfl (by decide) (ok_move rfl (vl rfl)) ?_
                  refine Ch.yes rfl rfl rfl h8 rfl (by decide) (ok_indexAddr rfl Tryz.underlying27 sz42 (vl rfl) (vl rfl) (by omega) (row_atI (fAt_at l i))) ?_
                  refine Ch.yes rfl rfl rfl h8 rfl (by decide) (ok_loadA rfl agg42 sz42 (vl rfl) rfl rfl) ?_
                  refine Ch.yes rfl rfl rfl h8 rfl (by decide) (ok_load1 rfl one27 (vl rfl)) ?_
                  refine Ch.yes rfl rfl rfl h8 rfl (by decide) (ok_move rfl (vl rfl)) ?_
                  refine Ch.yes rfl rfl rfl h8 rfl (by decide) (ok_indexAddr rfl Tryz.underlying27 sz42 (vl rfl) (vl rfl) (by omega) (row_atI (fAt_at l y))) ?_
                  refine Ch.yes rfl rfl rfl h8 rfl (by decide) (ok_loadA rfl agg42 sz42 (vl rfl) rfl rfl) ?_
                  refine Ch.yes rfl rfl rfl h8 rfl (by decide) (ok_call rfl (w_contra) ⟨⟨_, rfl, Pr.le_refl _⟩, ⟨_, rfl, Pr.le_refl _⟩, trivial⟩) ?_
                  refine Ch.op rfl rfl (by decide) (ok_pick_t rfl (vl rfl) h8 (vl rfl)) ?_
                  refine Ch.nil ?_
                  refine Fin.go ?_
                  refine Tr.weak [(3, _), (8, _), (10, _), (12, _), (14, _), (38, _), (39, _), (40, _), (48, _), (49, _), (50, _), (88, _)] ⟨⟨_, rfl, Pr.le_refl _⟩, ⟨_, rfl, Pr.le_refl _⟩, ⟨_, rfl, Pr.le_refl _⟩, ⟨_, rfl, Pr.le_refl _⟩, ⟨_, rfl, Pr.le_refl _⟩, ⟨_, rfl, Pr.le_refl _⟩, ⟨_, rfl, Pr.le_refl _⟩, ⟨_, rfl, Pr.le_refl _⟩, ⟨_, rfl, Pr.le_refl _⟩, ⟨_, rfl, Pr.le_refl _⟩, ⟨_, rfl, Pr.le_refl _⟩, ⟨_, rfl, Pr.le_refl _⟩, trivial⟩ ?_
                  refine Tr.cond rfl (fun h9 => ?_) (fun h9 => ?_)
                  ·
                    have q9 := Nrm.nrm h9
                    refine Tr.regT ?_
                    refine TO.op rfl rfl (by decide) (ok_move rfl (vl rfl)) ?_
                    refine TO.op rfl rfl (by decide) (ok_move rfl (vl rfl)) ?_
                    refine TO.op rfl rfl (by decide) (ok_move rfl (vl rfl)) ?_
                    refine TO.op rfl rfl (by decide) (ok_build (rows := [(0, [_]), (1, [_])]) rfl bl58 zo58 ⟨⟨rfl, (VL.le (vl rfl) (one_cellsP _))⟩, ⟨⟨rfl, (VL.le (vl rfl) (one_cellsP _))⟩, trivial⟩⟩ rfl) ?_
                    refine TO.op rfl rfl (by decide) (ok_buildSlice (xs := [.tmp 92]) (rows := [_]) rfl rfl Tryz.underlying54 sz58 z58 rfl (by decide) ⟨⟨(by exact rfl), (VL.le (vl rfl) (agg_cellsP _))⟩, trivial⟩ (by decide)) ?_
                    refine TO.efs 0 rfl rfl (by decide) (ef_append rfl rfl (by decide) rfl Tryz.underlying54 sz58 by58 z58 rfl (by decide) ⟨_, rfl, andIs_le _ _⟩ ⟨_, rfl, full_le _ _⟩ (by simp only [List.length_map, List.length_append, List.length_cons, List.length_nil]; unfold maxLen; omega) (by simp only [List.length_map, List.length_append, List.length_cons, List.length_nil]; omega) (appR_is (by exact List.Mem.head _) ⟨_, rfl, andIs_is _ _⟩)) (fun v2 => ?_)
                    refine TO.op rfl rfl (by decide) (ok_assign rfl (vl rfl)) ?_
                    refine TO.nil ?_
                    refine Fin.block ?_
                    refine Fin.go ?_
                    refine Tr.weak [(3, _), (8, _), (10, _), (12, _), (38, _), (39, _), (40, _), (48, _), (49, _), (50, _)] ⟨⟨_, rfl, Pr.le_refl _⟩, ⟨_, rfl, Pr.le_refl _⟩, ⟨_, rfl, Pr.le_refl _⟩, ⟨_, rfl, Pr.le_refl _⟩, ⟨_, rfl, Pr.le_refl _⟩, ⟨_, rfl, Pr.le_refl _⟩, ⟨_, rfl, Pr.le_refl _⟩, ⟨_, rfl, Pr.le_refl _⟩, ⟨_, rfl, Pr.le_refl _⟩, ⟨_, rfl, Pr.le_refl _⟩, trivial⟩ ?_
                    refine Tr.reg0 ?_
                    first
                      | (refine Ch.op rfl rfl (by decide) (ok_add rfl (vl rfl) (vl rfl) ?hin) ?_; case hin => unfold InI; omega)
                      | refine Ch.op rfl rfl (by decide) (ok_int rfl (vl rfl) (vl rfl) rfl) ?_
                    refine Ch.op rfl rfl (by decide) (ok_move rfl (vl rfl)) ?_
                    refine Ch.nil ?_
                    first
                      | (have hcv : clash l i y = true := by (rw [clash_iff]; simp_all; done)
                         rw [hcv] at hst)
                      | (have hcv : clash l i y = false := by (rw [← Bool.not_eq_true, clash_iff]; simp_all; done)
                         rw [hcv] at hst)
                    exact Fin.famV1 (j + 1) v2 (⟨hk_j, by omega⟩) ⟨⟨_, rfl, int_succ j⟩, ⟨_, rfl, own_le (by rw [hst]; first | (simp; done) | (rw [if_pos rfl]; simp only [List.map_append, List.append_assoc]; rfl))⟩, ⟨_, rfl, Pr.le_refl _⟩, ⟨_, rfl, Pr.le_refl _⟩, ⟨_, rfl, Pr.le_refl _⟩, ⟨_, rfl, Pr.le_refl _⟩, ⟨_, rfl, Pr.le_refl _⟩, ⟨_, rfl, Pr.le_refl _⟩, ⟨_, rfl, Pr.le_refl _⟩, ⟨_, rfl, Pr.le_refl _⟩, trivial⟩ (fun _ _ h => h)
                  ·
                    have q9 := Nrm.nrm h9
                    refine Tr.skip ?_
                    refine Fin.block ?_
                    refine Fin.go ?_
                    refine Tr.reg0 ?_
                    first
                      | (refine Ch.op rfl rfl (by decide) (ok_add rfl (vl rfl) (vl rfl) ?hin) ?_; case hin => unfold InI; omega)
                      | refine Ch.op rfl rfl (by decide) (ok_int rfl (vl rfl) (vl rfl) rfl) ?_
                    refine Ch.op rfl rfl (by decide) (ok_move rfl (vl rfl)) ?_
                    refine Ch.nil ?_
                    first
                      | (have hcv : clash l i y = true := by (rw [clash_iff]; simp_all; done)
                         rw [hcv] at hst)
                      | (have hcv : clash l i y = false := by (rw [← Bool.not_eq_true, clash_iff]; simp_all; done)
                         rw [hcv] at hst)
                    exact Fin.famV1 (j + 1) u (⟨hk_j, by omega⟩) ⟨⟨_, rfl, int_succ j⟩, ⟨_, rfl, own_le (by rw [hst]; first | (simp; done) | (rw [if_pos rfl]; simp only [List.map_append, List.append_assoc]; rfl))⟩, ⟨_, rfl, Pr.le_refl _⟩, ⟨_, rfl, Pr.le_refl _⟩, ⟨_, rfl, Pr.le_refl _⟩, ⟨_, rfl, Pr.le_refl _⟩, ⟨_, rfl, Pr.le_refl _⟩, ⟨_, rfl, Pr.le_refl _⟩, ⟨_, rfl, Pr.le_refl _⟩, ⟨_, rfl, Pr.le_refl _⟩, trivial⟩ (fun _ _ h => h)
                ·
                  have q8 := Nrm.nrm h8
                  refine Ch.no rfl rfl rfl (ne_true h8) rfl (by decide) ?_
                  refine Ch.no rfl rfl rfl (ne_true h8) rfl (by decide) ?_
                  refine Ch.no rfl rfl rfl (ne_true h8) rfl (by decide) ?_
                  refine Ch.no rfl rfl rfl (ne_true h8) rfl (by decide) ?_
                  refine Ch.no rfl rfl rfl (ne_true h8) rfl (by decide) ?_
                  refine Ch.no rfl rfl rfl (ne_true h8) rfl (by decide) ?_
                  refine Ch.no rfl rfl rfl (ne_true h8) rfl (by decide) ?_
                  refine Ch.no rfl rfl rfl (ne_true h8) rfl (by decide) ?_
                  refine Ch.no rfl rfl rfl (ne_true h8) rfl (by decide) ?_
                  refine Ch.op rfl rfl (by decide) (ok_pick_f rfl (vl rfl) h8 (vl rfl)) ?_
                  refine Ch.nil ?_
                  refine Fin.go ?_
                  refine Tr.weak [(3, _), (8, _), (10, _), (12, _), (14, _), (38, _), (39, _), (40, _), (48, _), (49, _), (50, _), (88, _)] ⟨⟨_, rfl, Pr.le_refl _⟩, ⟨_, rfl, Pr.le_refl _⟩, ⟨_, rfl, Pr.le_refl _⟩, ⟨_, rfl, Pr.le_refl _⟩, ⟨_, rfl, Pr.le_refl _⟩, ⟨_, rfl, Pr.le_refl _⟩, ⟨_, rfl, Pr.le_refl _⟩, ⟨_, rfl, Pr.le_refl _⟩, ⟨_, rfl, Pr.le_refl _⟩, ⟨_, rfl, Pr.le_refl _⟩, ⟨_, rfl, Pr.le_refl _⟩, ⟨_, rfl, Pr.le_refl _⟩, trivial⟩ ?_
                  refine Tr.cond rfl (fun h => nomatch h) (fun _ => ?_)
                  refine Tr.skip ?_
                  refine Fin.block ?_
                  refine Fin.go ?_
                  refine Tr.reg0 ?_
                  first
                    | (refine Ch.op rfl rfl (by decide) (ok_add rfl (vl rfl) (vl rfl) ?hin) ?_; case hin => unfold InI; omega)
                    | refine Ch.op rfl rfl (by decide) (ok_int rfl (vl rfl) (vl rfl) rfl) ?_
                  refine Ch.op rfl rfl (by decide) (ok_move rfl (vl rfl)) ?_
                  refine Ch.nil ?_
                  first
                    | (have hcv : clash l i y = true := by (rw [clash_iff]; simp_all; done)
                       rw [hcv] at hst)
                    | (have hcv : clash l i y = false := by (rw [← Bool.not_eq_true, clash_iff]; simp_all; done)
                       rw [hcv] at hst)
                  exact Fin.famV1 (j + 1) u (⟨hk_j, by omega⟩) ⟨⟨_, rfl, int_succ j⟩, ⟨_, rfl, own_le (by rw [hst]; first | (simp; done) | (rw [if_pos rfl]; simp only [List.map_append, List.append_assoc]; rfl))⟩, ⟨_, rfl, Pr.le_refl _⟩, ⟨_, rfl, Pr.le_refl _⟩, ⟨_, rfl, Pr.le_refl _⟩, ⟨_, rfl, Pr.le_refl _⟩, ⟨_, rfl, Pr.le_refl _⟩, ⟨_, rfl, Pr.le_refl _⟩, ⟨_, rfl, Pr.le_refl _⟩, ⟨_, rfl, Pr.le_refl _⟩, trivial⟩ (fun _ _ h => h)
              ·
                have q7 := Nrm.nrm h7
                refine Ch.no rfl rfl rfl (ne_true h7) rfl (by decide) ?_
                refine Ch.no rfl rfl rfl (ne_true h7) rfl (by decide) ?_
                refine Ch.no rfl rfl rfl (ne_true h7) rfl (by decide) ?_
                refine Ch.no rfl rfl rfl (ne_true h7) rfl (by decide) ?_
                refine Ch.no rfl rfl rfl (ne_true h7) rfl (by decide) ?_
                refine Ch.no rfl rfl rfl (ne_true h7) rfl (by decide) ?_
                refine Ch.no rfl rfl rfl (ne_true h7) rfl (by decide) ?_
                refine Ch.no rfl rfl rfl (ne_true h7) rfl (by decide) ?_
                refine Ch.no rfl rfl rfl (ne_true h7) rfl (by decide) ?_
                refine Ch.no rfl rfl rfl (ne_true h7) rfl (by decide) ?_
                refine Ch.no rfl rfl rfl (ne_true h7) rfl (by decide) ?_
                refine Ch.op rfl rfl (by decide) (ok_pick_f rfl (vl rfl) h7 (vl rfl)) ?_
                refine Ch.op rfl rfl (by decide) (ok_move rfl (vl rfl)) ?_
                refine Ch.no rfl rfl rfl (by decide) rfl (by decide) ?_
                refine Ch.no rfl rfl rfl (by decide) rfl (by decide) ?_
                refine Ch.no rfl rfl rfl (by decide) rfl (by decide) ?_
                refine Ch.no rfl rfl rfl (by decide) rfl (by decide) ?_
                refine Ch.no rfl rfl rfl (by decide) rfl (by decide) ?_
                refine Ch.no rfl rfl rfl (by decide) rfl (by decide) ?_
                refine Ch.no rfl rfl rfl (by decide) rfl (by decide) ?_
                refine Ch.no rfl rfl rfl (by decide) rfl (by decide) ?_
                refine Ch.no rfl rfl rfl (by decide) rfl (by decide) ?_
                refine Ch.op rfl rfl (by decide) (ok_pick_f rfl (vl rfl) rfl (vl rfl)) ?_
                refine Ch.nil ?_
                refine Fin.go ?_
                refine Tr.weak [(3, _), (8, _), (10, _), (12, _), (14, _), (38, _), (39, _), (40, _), (48, _), (49, _), (50, _), (88, _)] ⟨⟨_, rfl, Pr.le_refl _⟩, ⟨_, rfl, Pr.le_refl _⟩, ⟨_, rfl, Pr.le_refl _⟩, ⟨_, rfl, Pr.le_refl _⟩, ⟨_, rfl, Pr.le_refl _⟩, ⟨_, rfl, Pr.le_refl _⟩, ⟨_, rfl, Pr.le_refl _⟩, ⟨_, rfl, Pr.le_refl _⟩, ⟨_, rfl, Pr.le_refl _⟩, ⟨_, rfl, Pr.le_refl _⟩, ⟨_, rfl, Pr.le_refl _⟩, ⟨_, rfl, Pr.le_refl _⟩, trivial⟩ ?_
                refine Tr.cond rfl (fun h => nomatch h) (fun _ => ?_)
                refine Tr.skip ?_
                refine Fin.block ?_
                refine Fin.go ?_
                refine Tr.reg0 ?_
                first
                  | (refine Ch.op rfl rfl (by decide) (ok_add rfl (vl rfl) (vl rfl) ?hin) ?_; case hin => unfold InI; omega)
                  | refine Ch.op rfl rfl (by decide) (ok_int rfl (vl rfl) (vl rfl) rfl) ?_
                refine Ch.op rfl rfl (by decide) (ok_move rfl (vl rfl)) ?_
                refine Ch.nil ?_
                first
                  | (have hcv : clash l i y = true := by (rw [clash_iff]; simp_all; done)
                     rw [hcv] at hst)
                  | (have hcv : clash l i y = false := by (rw [← Bool.not_eq_true, clash_iff]; simp_all; done)
                     rw [hcv] at hst)
                exact Fin.famV1 (j + 1) u (⟨hk_j, by omega⟩) ⟨⟨_, rfl, int_succ j⟩, ⟨_, rfl, own_le (by rw [hst]; first | (simp; done) | (rw [if_pos rfl]; simp only [List.map_append, List.append_assoc]; rfl))⟩, ⟨_, rfl, Pr.le_refl _⟩, ⟨_, rfl, Pr.le_refl _⟩, ⟨_, rfl, Pr.le_refl _⟩, ⟨_, rfl, Pr.le_refl _⟩, ⟨_, rfl, Pr.le_refl _⟩, ⟨_, rfl, Pr.le_refl _⟩, ⟨_, rfl, Pr.le_refl _⟩, ⟨_, rfl, Pr.le_refl _⟩, trivial⟩ (fun _ _ h => h)
            ·
              have q6 := Nrm.nrm h6
              have he_j : j = (((keptF l c own).drop (k + 1))).length := by have := ge_of_dec h6; omega
              subst he_j
              rw [List.take_length]
              refine Tr.exit ?_
              refine Fin.then_exit ?_
              refine Fin.then_exit ?_
              refine Fin.block_here ?_
              refine Fin.block ?_
              refine Fin.go ?_
              refine Tr.reg0 ?_
              first
                | (refine Ch.op rfl rfl (by decide) (ok_add rfl (vl rfl) (vl rfl) ?hin) ?_; case hin => unfold InI; omega)
                | refine Ch.op rfl rfl (by decide) (ok_int rfl (vl rfl) (vl rfl) rfl) ?_
              refine Ch.op rfl rfl (by decide) (ok_move rfl (vl rfl)) ?_
              refine Ch.nil ?_
              exact Fin.famV1 (k + 1) u (⟨hk_k, by omega⟩) ⟨⟨_, rfl, int_succ k⟩, ⟨_, rfl, own_le (by rw [confP_at hx_k])⟩, ⟨_, rfl, Pr.le_refl _⟩, ⟨_, rfl, Pr.le_refl _⟩, ⟨_, rfl, Pr.le_refl _⟩, ⟨_, rfl, Pr.le_refl _⟩, trivial⟩ (fun _ _ h => h)
          ·
            have q5 := Nrm.nrm h5
            have he_k : k = ((keptF l c own)).length := by have := ge_of_dec h5; omega
            subst he_k
            refine Tr.exit ?_
            refine Fin.then_exit ?_
            refine Fin.then_exit ?_
            refine Fin.block_here ?_
            refine Fin.go ?_
            refine Tr.seq ?_
            refine Tr.reg0 ?_
            refine Ch.op rfl rfl (by decide) (ok_move rfl (vl rfl)) ?_
            refine Ch.op rfl rfl (by decide) (ok_assign rfl (vl rfl)) ?_
            refine Ch.op rfl rfl (by decide) (ok_assign rfl (vl rfl)) ?_
            refine Ch.nil ?_
            refine Fin.go ?_
            refine Tr.ret ?_
            refine Fin.ret2 rfl (OutW.bse _ _) rfl ?_ rfl ?_
            · exact andIs_le _ _
            · first | exact Pr.le_refl _ | (refine int_eq ?_; simp_all; done) | (refine bool_eq ?_; simp_all; done) | (refine bool_eq ?_; simp_all; omega) | (refine int_eq ?_; omega)
theorem e_ConfN : Entry Tryz.prog 23 := ⟨_, Tryz.func23, rfl, rfl⟩
set_option maxRecDepth 20000 in
theorem w_entity {l : List Fnd} (hl : l.length ≤ 1000) : Fun Tryz.prog 13 [fnds l] (entP 0 (numsTo l.length)) := by
  refine Fun.of Tryz.func13 rfl rfl (by exact Nat.le_of_ble_eq_true rfl) fun M0 w0 => ?_
  refine Tr.seq ?_
  refine Tr.regT ?_
  refine TO.alloc rfl rfl (by decide) rfl z35 zo35 (fun b1 => ?_)
  refine TO.nil ?_
  refine Fin.go ?_
  refine Tr.seq ?_
  refine Tr.regT ?_
  refine TO.alloc rfl rfl (by decide) rfl z35 zo35 (fun b2 => ?_)
  refine TO.nil ?_
  refine Fin.go ?_
  refine Tr.seq ?_
  refine Tr.seq ?_
  refine Tr.reg0 ?_
  refine Ch.op rfl rfl (by decide) (ok_assign rfl (vl rfl)) ?_
  refine Ch.nil ?_
  refine Fin.go ?_
  refine Tr.block ?_
  refine Tr.reC 0 [is (.int .i64 0), is (.slice none 0 0), is (.slice none 0 0), andIs (.slice none 0 0) (ints [])] rfl ⟨Pr.le_refl _, Pr.le_refl _, Pr.le_refl _, own_nil rfl, trivial⟩ ?_
  refine Tr.addnil 3 1 ?_
  refine Tr.loopD1V1 [(0, _), (2, _), (3, _)] ⟨⟨_, rfl, Pr.le_refl _⟩, ⟨_, rfl, Pr.le_refl _⟩, ⟨_, rfl, Pr.le_refl _⟩, trivial⟩ (fun (m : Nat) v => [(4, int ((m : Nat) : Int))]) (fun (m : Nat) v => Hp M0 w0 noS ([appRes 3 1 v, cellsRes true b2 35 [is (.int .i64 0), is (.slice none 0 0), is (.slice none 0 0), andIs v (ints (numsTo m))], cellsRes true b1 35 [is (.int .i64 0), is (.slice none 0 0), is (.slice none 0 0), is (.slice none 0 0)]])) (fun (m : Nat) => m ≤ l.length) (fun (m : Nat) => l.length - m) (0) (.slice none 0 0) (Nat.zero_le _) ⟨⟨_, rfl, Pr.le_refl _⟩, trivial⟩ (fun _ _ h => h) ?_
  rintro m v hml
  refine Tr.seq ?_
  refine Tr.seq ?_
  refine Tr.reg0 ?_
  refine Ch.op rfl rfl (by decide) (ok_move rfl (vl rfl)) ?_
  refine Ch.op rfl rfl (by decide) (ok_move rfl (vl rfl)) ?_
  first
    | refine Ch.op rfl rfl (by decide) (ok_lenm rfl Tryz.underlying27 (vl rfl)) ?_
    | refine Ch.op rfl rfl (by decide) (ok_len rfl Tryz.underlying27 (vl rfl)) ?_
  refine Ch.op rfl rfl (by decide) (ok_int rfl (vl rfl) (vl rfl) rfl) ?_
  refine Ch.nil ?_
  refine Fin.go ?_
  refine Tr.cond rfl (fun h1 => ?_) (fun h1 => ?_)
  ·
    have q1 := Nrm.nrm h1
    have hml2 : m < l.length := lt_of_dec h1
    have hnl := numsTo_len m
    refine Tr.skip ?_
    refine Fin.go ?_
    refine Tr.seq ?_
    refine Tr.block ?_
    refine Tr.regT ?_
    refine TO.op rfl rfl (by decide) (okp_fieldAddr rfl fo35_3 (vl rfl)) ?_
    refine TO.rd 1 rfl rfl rfl (by decide) (rd_load1 rfl one22 (vl rfl) rfl) ?_
    refine TO.op rfl rfl (by decide) (ok_move rfl (vl rfl)) ?_
    refine TO.op rfl rfl (by decide) (ok_buildSlice (xs := [.tmp 13]) (rows := [[_]]) rfl rfl Tryz.underlying22 sz3 z3 rfl (by decide) ⟨⟨(by exact rfl), (VL.le (vl rfl) (one_cellsP _))⟩, trivial⟩ (by decide)) ?_
    refine TO.efs 0 rfl rfl (by decide) (ef_append rfl rfl (by decide) rfl Tryz.underlying22 sz3 by3 z3 rfl (by decide) ⟨_, rfl, andIs_le _ _⟩ ⟨_, rfl, full_le _ _⟩ (by simp only [List.length_map, List.length_append, List.length_cons, List.length_nil]; unfold maxLen; omega) (by simp only [List.length_map, List.length_append, List.length_cons, List.length_nil]; omega) (appR_is (by exact List.Mem.head _) ⟨_, rfl, andIs_is _ _⟩)) (fun v1 => ?_)
    refine TO.op rfl rfl (by decide) (okp_fieldAddr rfl fo35_3 (vl rfl)) ?_
    refine TO.ef0 1 rfl rfl (ef_store rfl rfl (vl rfl) (VL.le (vl rfl) (one_cellsP _)) sz22 rfl (by exact Nat.le_of_ble_eq_true rfl) rfl) ?_
    refine TO.nil ?_
    refine Fin.block ?_
    refine Fin.go ?_
    refine Tr.weak [(0, _), (2, _), (3, _), (4, _)] ⟨⟨_, rfl, Pr.le_refl _⟩, ⟨_, rfl, Pr.le_refl _⟩, ⟨_, rfl, Pr.le_refl _⟩, ⟨_, rfl, Pr.le_refl _⟩, trivial⟩ ?_
    refine Tr.reg0 ?_
    refine Ch.op rfl rfl (by decide) (ok_move rfl (vl rfl)) ?_
    first
      | (refine Ch.op rfl rfl (by decide) (ok_add rfl (vl rfl) (vl rfl) ?hin) ?_; case hin => unfold InI; omega)
      | refine Ch.op rfl rfl (by decide) (ok_int rfl (vl rfl) (vl rfl) rfl) ?_
    refine Ch.op rfl rfl (by decide) (ok_assign rfl (vl rfl)) ?_
    refine Ch.nil ?_
    refine Fin.reC 1 [is (.int .i64 0), is (.slice none 0 0), is (.slice none 0 0), andIs v1 (ints (numsTo (m + 1)))] rfl ⟨Pr.le_refl _, Pr.le_refl _, Pr.le_refl _, own_le (numsTo_succ m), trivial⟩ ?_
    exact Fin.famD1V1 (m + 1) v1 (⟨by omega, by omega⟩) ⟨⟨_, rfl, int_succ m⟩, ⟨_, rfl, Pr.le_refl _⟩, ⟨_, rfl, Pr.le_refl _⟩, ⟨_, rfl, Pr.le_refl _⟩, trivial⟩ (fun _ _ h => h)
  ·
    have q1 := Nrm.nrm h1
    have hme : m = l.length := by have := ge_of_dec h1; omega
    subst hme
    refine Tr.exit ?_
    refine Fin.then_exit ?_
    refine Fin.then_exit ?_
    refine Fin.block_here ?_
    refine Fin.go ?_
    refine Tr.seq ?_
    refine Tr.regT ?_
    refine TO.rd 1 rfl rfl rfl (by decide) (rd_loadA rfl agg35 sz35 (vl rfl) rfl rfl) ?_
    refine TO.store_all 2 rfl rfl rfl (vl rfl) (VL.le (vl rfl) (agg_cellsP _)) rfl sz35 rfl rfl ?_
    refine TO.nil ?_
    refine Fin.go ?_
    refine Tr.ret ?_
    refine Fin.retX1 rfl (RVal.cell 2 rfl rfl agg35 sz35 rfl (Pr.le_refl _)) ?_
    · exact agg_le ⟨Pr.le_refl _, le_any _, le_any _, andIs_le _ _, trivial⟩
theorem e_entity : Entry Tryz.prog 13 := ⟨_, Tryz.func13, rfl, rfl⟩
end Go.Proofs.YthmnoekgicggnaaGreat
