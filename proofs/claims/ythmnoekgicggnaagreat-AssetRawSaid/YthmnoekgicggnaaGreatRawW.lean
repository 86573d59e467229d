/-
  AssetRaw: whatever the input, the law of this name returns true and its arguments read as before. No conditions.
-/
import Derived.Test.YthmnoekgicggnaaGreatTypes
import Derived.Test.YthmnoekgicggnaaGreatSlices
import Derived.Test.YthmnoekgicggnaaGreatEqs
import Derived.Test.YthmnoekgicggnaaGreatFindD
import Derived.Test.YthmnoekgicggnaaGreatAssetA
import Derived.Test.YthmnoekgicggnaaGreatAssetC
import Derived.Test.YthmnoekgicggnaaGreatAssetD
import Derived.Test.YthmnoekgicggnaaGreatAssetE
import Derived.Test.YthmnoekgicggnaaGreatAssetF
import Derived.Test.YthmnoekgicggnaaGreatCoreN
import Derived.Test.YthmnoekgicggnaaGreatTop
namespace Go.Proofs.YthmnoekgicggnaaGreat
open Go Go.RowKit Cp Go.ChangeShapes Go.WideShapes Go.ChangeAt

theorem last_at {β : Type} {f : β → List Pr} {l : List β} {x : β} (h : l[l.length - 1]? = some x) : (l.map f)[(((l.length : Nat) : Int) - 1).toNat]? = some (f x) := by
  rw [show (((l.length : Nat) : Int) - 1).toNat = l.length - 1 by omega, List.getElem?_map, h]; rfl

set_option maxRecDepth 20000 in
theorem w_AssetRaw {a b : List Fct} {s : List UInt8} {kd : Int}  : Fun Tryz.prog 4 [fcts a, fcts b, str s, int kd] (bool true) := by
  refine Fun.of Tryz.func4 rfl rfl (by exact Nat.le_of_ble_eq_true rfl) fun M0 w0 => ?_
  refine Tr.seq ?_
  refine Tr.reg0 ?_
  refine Ch.op rfl rfl (by decide) (ok_assign rfl (vl rfl)) ?_
  refine Ch.nil ?_
  refine Fin.go ?_
  refine Tr.seq ?_
  refine Tr.seq ?_
  refine Tr.reg0 ?_
  refine Ch.op rfl rfl (by decide) (ok_move rfl (vl rfl)) ?_
  first
    | refine Ch.op rfl rfl (by decide) (ok_lenm rfl Tryz.underlying29 (vl rfl)) ?_
    | refine Ch.op rfl rfl (by decide) (ok_len rfl Tryz.underlying29 (vl rfl)) ?_
  refine Ch.op rfl rfl (by decide) (ok_int rfl (vl rfl) (vl rfl) rfl) ?_
  refine Ch.op rfl rfl (by decide) (ok_move rfl (vl rfl)) ?_
  refine Ch.cases 21 rfl (fun h1 => ?_) (fun h1 => ?_)
  ·
    have q1 := Nrm.nrm h1
    refine Ch.no rfl rfl rfl (ne_false h1) rfl (by decide) ?_
    refine Ch.no rfl rfl rfl (ne_false h1) rfl (by decide) ?_
    refine Ch.no rfl rfl rfl (ne_false h1) rfl (by decide) ?_
    refine Ch.op rfl rfl (by decide) (ok_pick_t rfl (vl rfl) h1 (vl rfl)) ?_
    refine Ch.op rfl rfl (by decide) (ok_move rfl (vl rfl)) ?_
    refine Ch.no rfl rfl rfl (by decide) rfl (by decide) ?_
    refine Ch.no rfl rfl rfl (by decide) rfl (by decide) ?_
    refine Ch.no rfl rfl rfl (by decide) rfl (by decide) ?_
    refine Ch.op rfl rfl (by decide) (ok_pick_t rfl (vl rfl) rfl (vl rfl)) ?_
    refine Ch.nil ?_
    refine Fin.go ?_
    refine Tr.weak [(0, _), (1, _), (2, _), (3, _), (30, _)] ⟨⟨_, rfl, Pr.le_refl _⟩, ⟨_, rfl, Pr.le_refl _⟩, ⟨_, rfl, Pr.le_refl _⟩, ⟨_, rfl, Pr.le_refl _⟩, ⟨_, rfl, Pr.le_refl _⟩, trivial⟩ ?_
    refine Tr.cond rfl (fun _ => ?_) (fun h => nomatch h)
    refine Tr.seq ?_
    refine Tr.reg0 ?_
    refine Ch.op rfl rfl (by decide) (ok_call rfl (w_awake) trivial) ?_
    refine Ch.op rfl rfl (by decide) (ok_assign rfl (vl rfl)) ?_
    refine Ch.nil ?_
    refine Fin.go ?_
    refine Tr.ret ?_
    refine Fin.then_ret ?_
    refine Fin.ret1 rfl (OutW.bse _ _) rfl ?_
    · first | exact Pr.le_refl _ | (refine int_eq ?_; simp_all; done) | (refine bool_eq ?_; simp_all; done) | (refine bool_eq ?_; simp_all; omega) | (refine int_eq ?_; omega)
  ·
    have q1 := Nrm.nrm h1
    refine Ch.yes rfl rfl rfl h1 rfl (by decide) (ok_move rfl (vl rfl)) ?_
    first
      | refine Ch.yes rfl rfl rfl h1 rfl (by decide) (ok_lenm rfl Tryz.underlying29 (vl rfl)) ?_
      | refine Ch.yes rfl rfl rfl h1 rfl (by decide) (ok_len rfl Tryz.underlying29 (vl rfl)) ?_
    refine Ch.yes rfl rfl rfl h1 rfl (by decide) (ok_int rfl (vl rfl) (vl rfl) rfl) ?_
    refine Ch.op rfl rfl (by decide) (ok_pick_f rfl (vl rfl) h1 (vl rfl)) ?_
    refine Ch.op rfl rfl (by decide) (ok_move rfl (vl rfl)) ?_
    refine Ch.cases 26 rfl (fun h2 => ?_) (fun h2 => ?_)
    ·
      have q2 := Nrm.nrm h2
      refine Ch.no rfl rfl rfl (ne_false h2) rfl (by decide) ?_
      refine Ch.no rfl rfl rfl (ne_false h2) rfl (by decide) ?_
      refine Ch.no rfl rfl rfl (ne_false h2) rfl (by decide) ?_
      refine Ch.op rfl rfl (by decide) (ok_pick_t rfl (vl rfl) h2 (vl rfl)) ?_
      refine Ch.nil ?_
      refine Fin.go ?_
      refine Tr.weak [(0, _), (1, _), (2, _), (3, _), (30, _)] ⟨⟨_, rfl, Pr.le_refl _⟩, ⟨_, rfl, Pr.le_refl _⟩, ⟨_, rfl, Pr.le_refl _⟩, ⟨_, rfl, Pr.le_refl _⟩, ⟨_, rfl, Pr.le_refl _⟩, trivial⟩ ?_
      refine Tr.cond rfl (fun _ => ?_) (fun h => nomatch h)
      refine Tr.seq ?_
      refine Tr.reg0 ?_
      refine Ch.op rfl rfl (by decide) (ok_call rfl (w_awake) trivial) ?_
      refine Ch.op rfl rfl (by decide) (ok_assign rfl (vl rfl)) ?_
      refine Ch.nil ?_
      refine Fin.go ?_
      refine Tr.ret ?_
      refine Fin.then_ret ?_
      refine Fin.ret1 rfl (OutW.bse _ _) rfl ?_
      · first | exact Pr.le_refl _ | (refine int_eq ?_; simp_all; done) | (refine bool_eq ?_; simp_all; done) | (refine bool_eq ?_; simp_all; omega) | (refine int_eq ?_; omega)
    ·
      have q2 := Nrm.nrm h2
      refine Ch.yes rfl rfl rfl h2 rfl (by decide) (ok_move rfl (vl rfl)) ?_
      refine Ch.yes rfl rfl rfl h2 rfl (by decide) (ok_lens rfl Tryz.underlying9 (vl rfl)) ?_
      refine Ch.yes rfl rfl rfl h2 rfl (by decide) (ok_int rfl (vl rfl) (vl rfl) rfl) ?_
      refine Ch.op rfl rfl (by decide) (ok_pick_f rfl (vl rfl) h2 (vl rfl)) ?_
      refine Ch.nil ?_
      refine Fin.go ?_
      refine Tr.weak [(0, _), (1, _), (2, _), (3, _), (30, _)] ⟨⟨_, rfl, Pr.le_refl _⟩, ⟨_, rfl, Pr.le_refl _⟩, ⟨_, rfl, Pr.le_refl _⟩, ⟨_, rfl, Pr.le_refl _⟩, ⟨_, rfl, Pr.le_refl _⟩, trivial⟩ ?_
      refine Tr.cond rfl (fun h3 => ?_) (fun h3 => ?_)
      ·
        have q3 := Nrm.nrm h3
        refine Tr.seq ?_
        refine Tr.reg0 ?_
        refine Ch.op rfl rfl (by decide) (ok_call rfl (w_awake) trivial) ?_
        refine Ch.op rfl rfl (by decide) (ok_assign rfl (vl rfl)) ?_
        refine Ch.nil ?_
        refine Fin.go ?_
        refine Tr.ret ?_
        refine Fin.then_ret ?_
        refine Fin.ret1 rfl (OutW.bse _ _) rfl ?_
        · first | exact Pr.le_refl _ | (refine int_eq ?_; simp_all; done) | (refine bool_eq ?_; simp_all; done) | (refine bool_eq ?_; simp_all; omega) | (refine int_eq ?_; omega)
      ·
        have q3 := Nrm.nrm h3
        have hla : a.length ≤ 100000 := by omega
        have hlb : b.length ≤ 100000 := by omega
        refine Tr.skip ?_
        refine Fin.go ?_
        refine Tr.seq ?_
        refine Tr.reg0 ?_
        refine Ch.op rfl rfl (by decide) (ok_move rfl (vl rfl)) ?_
        refine Ch.op rfl rfl (by decide) (ok_move rfl (vl rfl)) ?_
        refine Ch.op rfl rfl (by decide) (ok_call rfl (w_Changes (by assumption) (by assumption)) ⟨⟨_, rfl, Pr.le_refl _⟩, ⟨_, rfl, Pr.le_refl _⟩, trivial⟩) ?_
        refine Ch.op rfl rfl (by decide) (ok_move rfl (vl rfl)) ?_
        refine Ch.op rfl rfl (by decide) (ok_extract rfl (vl rfl) rfl) ?_
        refine Ch.op rfl rfl (by decide) (ok_extract rfl (vl rfl) rfl) ?_
        refine Ch.op rfl rfl (by decide) (ok_assign rfl (vl rfl)) ?_
        refine Ch.op rfl rfl (by decide) (ok_assign rfl (vl rfl)) ?_
        refine Ch.nil ?_
        refine Fin.go ?_
        refine Tr.seq ?_
        refine Tr.reg0 ?_
        refine Ch.op rfl rfl (by decide) (ok_move rfl (vl rfl)) ?_
        refine Ch.op rfl rfl (by decide) (ok_move rfl (vl rfl)) ?_
        refine Ch.op rfl rfl (by decide) (ok_call rfl (w_RChanges (by assumption) (by assumption)) ⟨⟨_, rfl, Pr.le_refl _⟩, ⟨_, rfl, Pr.le_refl _⟩, trivial⟩) ?_
        refine Ch.op rfl rfl (by decide) (ok_move rfl (vl rfl)) ?_
        refine Ch.op rfl rfl (by decide) (ok_extract rfl (vl rfl) rfl) ?_
        refine Ch.op rfl rfl (by decide) (ok_extract rfl (vl rfl) rfl) ?_
        refine Ch.op rfl rfl (by decide) (ok_assign rfl (vl rfl)) ?_
        refine Ch.op rfl rfl (by decide) (ok_assign rfl (vl rfl)) ?_
        refine Ch.nil ?_
        refine Fin.go ?_
        refine Tr.weak [(0, _), (2, _), (3, _), (9, _), (10, _), (11, _), (12, _)] ⟨⟨_, rfl, Pr.le_refl _⟩, ⟨_, rfl, Pr.le_refl _⟩, ⟨_, rfl, Pr.le_refl _⟩, ⟨_, rfl, Pr.le_refl _⟩, ⟨_, rfl, Pr.le_refl _⟩, ⟨_, rfl, Pr.le_refl _⟩, ⟨_, rfl, Pr.le_refl _⟩, trivial⟩ ?_
        refine Tr.seq ?_
        refine Tr.seq ?_
        refine Tr.reg0 ?_
        refine Ch.op rfl rfl (by decide) (ok_assign rfl (vl rfl)) ?_
        refine Ch.nil ?_
        refine Fin.go ?_
        refine Tr.block ?_
        refine Tr.loopD3V0 [(0, _), (9, _), (10, _), (11, _), (12, _)] ⟨⟨_, rfl, Pr.le_refl _⟩, ⟨_, rfl, Pr.le_refl _⟩, ⟨_, rfl, Pr.le_refl _⟩, ⟨_, rfl, Pr.le_refl _⟩, ⟨_, rfl, Pr.le_refl _⟩, trivial⟩ (fun (i : Nat) (s1 : List UInt8) (k1 : Int) => [(13, int ((i : Nat) : Int)), (2, str s1), (3, int k1)]) (fun (i : Nat) (s1 : List UInt8) (k1 : Int) => Hp M0 w0 noS ([])) (fun (i : Nat) (s1 : List UInt8) (k1 : Int) => i ≤ 2) (fun (i : Nat) (s1 : List UInt8) (k1 : Int) => 2 - i) (0) (s) (kd)  (Nat.zero_le _) ⟨⟨_, rfl, Pr.le_refl _⟩, ⟨_, rfl, Pr.le_refl _⟩, ⟨_, rfl, Pr.le_refl _⟩, trivial⟩ (fun _ _ h => h) ?_
        rintro i s1 k1  hi2
        refine Tr.seq ?_
        refine Tr.seq ?_
        refine Tr.reg0 ?_
        refine Ch.op rfl rfl (by decide) (ok_move rfl (vl rfl)) ?_
        refine Ch.op rfl rfl (by decide) (ok_int rfl (vl rfl) (vl rfl) rfl) ?_
        refine Ch.nil ?_
        refine Fin.go ?_
        refine Tr.cond rfl (fun h4 => ?_) (fun h4 => ?_)
        ·
          have q4 := Nrm.nrm h4
          have := h4
          refine Tr.skip ?_
          refine Fin.go ?_
          refine Tr.seq ?_
          refine Tr.block ?_
          refine Tr.seq ?_
          refine Tr.reg0 ?_
          refine Ch.op rfl rfl (by decide) (ok_move rfl (vl rfl)) ?_
          refine Ch.op rfl rfl (by decide) (ok_move rfl (vl rfl)) ?_
          refine Ch.op rfl rfl (by decide) (ok_move rfl (vl rfl)) ?_
          refine Ch.op rfl rfl (by decide) (ok_call rfl (w_Number) ⟨⟨_, rfl, Pr.le_refl _⟩, ⟨_, rfl, Pr.le_refl _⟩, ⟨_, rfl, Pr.le_refl _⟩, trivial⟩) ?_
          refine Ch.op rfl rfl (by decide) (ok_move rfl (vl rfl)) ?_
          refine Ch.op rfl rfl (by decide) (ok_extract rfl (vl rfl) rfl) ?_
          refine Ch.op rfl rfl (by decide) (ok_extract rfl (vl rfl) rfl) ?_
          refine Ch.op rfl rfl (by decide) (ok_assign rfl (vl rfl)) ?_
          refine Ch.op rfl rfl (by decide) (ok_assign rfl (vl rfl)) ?_
          refine Ch.nil ?_
          refine Fin.go ?_
          refine Tr.weak [(0, _), (2, _), (3, _), (9, _), (10, _), (11, _), (12, _), (13, _), (14, _), (15, _)] ⟨⟨_, rfl, Pr.le_refl _⟩, ⟨_, rfl, Pr.le_refl _⟩, ⟨_, rfl, Pr.le_refl _⟩, ⟨_, rfl, Pr.le_refl _⟩, ⟨_, rfl, Pr.le_refl _⟩, ⟨_, rfl, Pr.le_refl _⟩, ⟨_, rfl, Pr.le_refl _⟩, ⟨_, rfl, Pr.le_refl _⟩, ⟨_, rfl, Pr.le_refl _⟩, ⟨_, rfl, Pr.le_refl _⟩, trivial⟩ ?_
          refine Tr.seq ?_
          refine Tr.reg0 ?_
          refine Ch.op rfl rfl (by decide) (ok_move rfl (vl rfl)) ?_
          refine Ch.op rfl rfl (by decide) (ok_move rfl (vl rfl)) ?_
          refine Ch.op rfl rfl (by decide) (ok_move rfl (vl rfl)) ?_
          refine Ch.op rfl rfl (by decide) (ok_call rfl (w_RNumber) ⟨⟨_, rfl, Pr.le_refl _⟩, ⟨_, rfl, Pr.le_refl _⟩, ⟨_, rfl, Pr.le_refl _⟩, trivial⟩) ?_
          refine Ch.op rfl rfl (by decide) (ok_move rfl (vl rfl)) ?_
          refine Ch.op rfl rfl (by decide) (ok_extract rfl (vl rfl) rfl) ?_
          refine Ch.op rfl rfl (by decide) (ok_extract rfl (vl rfl) rfl) ?_
          refine Ch.op rfl rfl (by decide) (ok_assign rfl (vl rfl)) ?_
          refine Ch.op rfl rfl (by decide) (ok_assign rfl (vl rfl)) ?_
          refine Ch.nil ?_
          refine Fin.go ?_
          refine Tr.weak [(0, _), (2, _), (3, _), (9, _), (10, _), (11, _), (12, _), (13, _), (14, _), (15, _), (16, _), (17, _)] ⟨⟨_, rfl, Pr.le_refl _⟩, ⟨_, rfl, Pr.le_refl _⟩, ⟨_, rfl, Pr.le_refl _⟩, ⟨_, rfl, Pr.le_refl _⟩, ⟨_, rfl, Pr.le_refl _⟩, ⟨_, rfl, Pr.le_refl _⟩, ⟨_, rfl, Pr.le_refl _⟩, ⟨_, rfl, Pr.le_refl _⟩, ⟨_, rfl, Pr.le_refl _⟩, ⟨_, rfl, Pr.le_refl _⟩, ⟨_, rfl, Pr.le_refl _⟩, ⟨_, rfl, Pr.le_refl _⟩, trivial⟩ ?_
          refine Tr.seq ?_
          refine Tr.seq ?_
          refine Tr.reg0 ?_
          refine Ch.op rfl rfl (by decide) (ok_move rfl (vl rfl)) ?_
          refine Ch.op rfl rfl (by decide) (ok_move rfl (vl rfl)) ?_
          refine Ch.op rfl rfl (by decide) (ok_int rfl (vl rfl) (vl rfl) rfl) ?_
          refine Ch.op rfl rfl (by decide) (ok_move rfl (vl rfl)) ?_
          refine Ch.cases 65 rfl (fun h5 => ?_) (fun h5 => ?_)
          ·
            have q5 := Nrm.nrm h5
            exfalso; simp at h5
          ·
            have q5 := Nrm.nrm h5
            refine Ch.yes rfl rfl rfl h5 rfl (by decide) (ok_move rfl (vl rfl)) ?_
            refine Ch.yes rfl rfl rfl h5 rfl (by decide) (ok_move rfl (vl rfl)) ?_
            refine Ch.yes rfl rfl rfl h5 rfl (by decide) (ok_neb rfl Tryz.underlying4 (vl rfl) (vl rfl)) ?_
            refine Ch.op rfl rfl (by decide) (ok_pick_f rfl (vl rfl) h5 (vl rfl)) ?_
            refine Ch.op rfl rfl (by decide) (ok_move rfl (vl rfl)) ?_
            refine Ch.cases 70 rfl (fun h6 => ?_) (fun h6 => ?_)
            ·
              have q6 := Nrm.nrm h6
              exfalso; simp at h6
            ·
              have q6 := Nrm.nrm h6
              refine Ch.yes rfl rfl rfl h6 rfl (by decide) (ok_move rfl (vl rfl)) ?_
              refine Ch.yes rfl rfl rfl h6 rfl (by decide) (ok_move rfl (vl rfl)) ?_
              refine Ch.yes rfl rfl rfl h6 rfl (by decide) (ok_call rfl (w_Uses (by assumption)) ⟨⟨_, rfl, Pr.le_refl _⟩, ⟨_, rfl, Pr.le_refl _⟩, trivial⟩) ?_
              refine Ch.yes rfl rfl rfl h6 rfl (by decide) (ok_move rfl (vl rfl)) ?_
              refine Ch.yes rfl rfl rfl h6 rfl (by decide) (ok_move rfl (vl rfl)) ?_
              refine Ch.yes rfl rfl rfl h6 rfl (by decide) (ok_call rfl (w_RUses (by assumption)) ⟨⟨_, rfl, Pr.le_refl _⟩, ⟨_, rfl, Pr.le_refl _⟩, trivial⟩) ?_
              refine Ch.yes rfl rfl rfl h6 rfl (by decide) (ok_call rfl (w_SameUses) ⟨⟨_, rfl, Pr.le_refl _⟩, ⟨_, rfl, Pr.le_refl _⟩, trivial⟩) ?_
              refine Ch.yes rfl rfl rfl h6 rfl (by decide) (ok_not rfl (vl rfl)) ?_
              refine Ch.op rfl rfl (by decide) (ok_pick_f rfl (vl rfl) h6 (vl rfl)) ?_
              refine Ch.nil ?_
              refine Fin.go ?_
              refine Tr.weak [(0, _), (2, _), (3, _), (9, _), (10, _), (11, _), (12, _), (13, _), (79, _)] ⟨⟨_, rfl, Pr.le_refl _⟩, ⟨_, rfl, Pr.le_refl _⟩, ⟨_, rfl, Pr.le_refl _⟩, ⟨_, rfl, Pr.le_refl _⟩, ⟨_, rfl, Pr.le_refl _⟩, ⟨_, rfl, Pr.le_refl _⟩, ⟨_, rfl, Pr.le_refl _⟩, ⟨_, rfl, Pr.le_refl _⟩, ⟨_, rfl, Pr.le_refl _⟩, trivial⟩ ?_
              refine Tr.cond rfl (fun h7 => ?_) (fun h7 => ?_)
              ·
                have q7 := Nrm.nrm h7
                exfalso; simp at h7
              ·
                have q7 := Nrm.nrm h7
                refine Tr.skip ?_
                refine Fin.go ?_
                refine Tr.seq ?_
                refine Tr.reg0 ?_
                refine Ch.op rfl rfl (by decide) (ok_move rfl (vl rfl)) ?_
                first
                  | refine Ch.op rfl rfl (by decide) (ok_lenm rfl Tryz.underlying29 (vl rfl)) ?_
                  | refine Ch.op rfl rfl (by decide) (ok_len rfl Tryz.underlying29 (vl rfl)) ?_
                refine Ch.op rfl rfl (by decide) (ok_int rfl (vl rfl) (vl rfl) rfl) ?_
                refine Ch.nil ?_
                refine Fin.go ?_
                refine Tr.cond rfl (fun h8 => ?_) (fun h8 => ?_)
                ·
                  have q8 := Nrm.nrm h8
                  obtain ⟨x, hx⟩ := at_ (l := a) (k := a.length - 1) (by omega)
                  refine Tr.reg1 mixed (by kernel_rfl) ?_
                  refine Ch.op rfl rfl (by decide) (ok_move rfl (vl rfl)) ?_
                  refine Ch.op rfl rfl (by decide) (ok_move rfl (vl rfl)) ?_
                  first
                    | refine Ch.op rfl rfl (by decide) (ok_lenm rfl Tryz.underlying29 (vl rfl)) ?_
                    | refine Ch.op rfl rfl (by decide) (ok_len rfl Tryz.underlying29 (vl rfl)) ?_
                  first
                    | (refine Ch.op rfl rfl (by decide) (ok_sub rfl (vl rfl) (vl rfl) ?hin) ?_; case hin => unfold InI; omega)
                    | refine Ch.op rfl rfl (by decide) (ok_int rfl (vl rfl) (vl rfl) rfl) ?_
                  refine Ch.op rfl rfl (by decide) (ok_indexAddr rfl Tryz.underlying29 sz40 (vl rfl) (vl rfl) (by omega) (last_at hx)) ?_
                  refine Ch.op rfl rfl (by decide) (ok_fieldAddr rfl fo40_1 (vl rfl) rfl) ?_
                  refine Ch.op rfl rfl (by decide) (ok_load1 rfl one9 (vl rfl)) ?_
                  refine Ch.op rfl rfl (by decide) (ok_move rfl (vl rfl)) ?_
                  refine Ch.op rfl rfl (by decide) (ok_move rfl (vl rfl)) ?_
                  first
                    | refine Ch.op rfl rfl (by decide) (ok_lenm rfl Tryz.underlying29 (vl rfl)) ?_
                    | refine Ch.op rfl rfl (by decide) (ok_len rfl Tryz.underlying29 (vl rfl)) ?_
                  first
                    | (refine Ch.op rfl rfl (by decide) (ok_sub rfl (vl rfl) (vl rfl) ?hin) ?_; case hin => unfold InI; omega)
                    | refine Ch.op rfl rfl (by decide) (ok_int rfl (vl rfl) (vl rfl) rfl) ?_
                  refine Ch.op rfl rfl (by decide) (ok_indexAddr rfl Tryz.underlying29 sz40 (vl rfl) (vl rfl) (by omega) (last_at hx)) ?_
                  refine Ch.op rfl rfl (by decide) (ok_fieldAddr rfl fo40_2 (vl rfl) rfl) ?_
                  refine Ch.op rfl rfl (by decide) (ok_load1 rfl one3 (vl rfl)) ?_
                  refine Ch.op rfl rfl (by decide) (ok_assign rfl (vl rfl)) ?_
                  refine Ch.op rfl rfl (by decide) (ok_assign rfl (vl rfl)) ?_
                  refine Ch.nil ?_
                  refine Fin.block ?_
                  refine Fin.go ?_
                  refine Tr.weak [(0, _), (2, _), (3, _), (9, _), (10, _), (11, _), (12, _), (13, _)] ⟨⟨_, rfl, Pr.le_refl _⟩, ⟨_, rfl, Pr.le_refl _⟩, ⟨_, rfl, Pr.le_refl _⟩, ⟨_, rfl, Pr.le_refl _⟩, ⟨_, rfl, Pr.le_refl _⟩, ⟨_, rfl, Pr.le_refl _⟩, ⟨_, rfl, Pr.le_refl _⟩, ⟨_, rfl, Pr.le_refl _⟩, trivial⟩ ?_
                  refine Tr.reg0 ?_
                  refine Ch.op rfl rfl (by decide) (ok_move rfl (vl rfl)) ?_
                  first
                    | (refine Ch.op rfl rfl (by decide) (ok_add rfl (vl rfl) (vl rfl) ?hin) ?_; case hin => unfold InI; omega)
                    | refine Ch.op rfl rfl (by decide) (ok_int rfl (vl rfl) (vl rfl) rfl) ?_
                  refine Ch.op rfl rfl (by decide) (ok_assign rfl (vl rfl)) ?_
                  refine Ch.nil ?_
                  exact Fin.famD3V0 (i + 1) (x.subj) (x.kind)  (⟨by omega, by omega⟩) ⟨⟨_, rfl, int_succ i⟩, ⟨_, rfl, Pr.le_refl _⟩, ⟨_, rfl, Pr.le_refl _⟩, ⟨_, rfl, Pr.le_refl _⟩, ⟨_, rfl, Pr.le_refl _⟩, ⟨_, rfl, Pr.le_refl _⟩, ⟨_, rfl, Pr.le_refl _⟩, ⟨_, rfl, Pr.le_refl _⟩, trivial⟩ (fun _ _ h => h)
                ·
                  have q8 := Nrm.nrm h8
                  refine Tr.skip ?_
                  refine Fin.block ?_
                  refine Fin.go ?_
                  refine Tr.reg0 ?_
                  refine Ch.op rfl rfl (by decide) (ok_move rfl (vl rfl)) ?_
                  first
                    | (refine Ch.op rfl rfl (by decide) (ok_add rfl (vl rfl) (vl rfl) ?hin) ?_; case hin => unfold InI; omega)
                    | refine Ch.op rfl rfl (by decide) (ok_int rfl (vl rfl) (vl rfl) rfl) ?_
                  refine Ch.op rfl rfl (by decide) (ok_assign rfl (vl rfl)) ?_
                  refine Ch.nil ?_
                  exact Fin.famD3V0 (i + 1) (s1) (k1)  (⟨by omega, by omega⟩) ⟨⟨_, rfl, int_succ i⟩, ⟨_, rfl, Pr.le_refl _⟩, ⟨_, rfl, Pr.le_refl _⟩, ⟨_, rfl, Pr.le_refl _⟩, ⟨_, rfl, Pr.le_refl _⟩, ⟨_, rfl, Pr.le_refl _⟩, ⟨_, rfl, Pr.le_refl _⟩, ⟨_, rfl, Pr.le_refl _⟩, trivial⟩ (fun _ _ h => h)
        ·
          have q4 := Nrm.nrm h4
          have := h4
          refine Tr.exit ?_
          refine Fin.then_exit ?_
          refine Fin.then_exit ?_
          refine Fin.block_here ?_
          refine Fin.go ?_
          refine Tr.seq ?_
          refine Tr.reg0 ?_
          refine Ch.op rfl rfl (by decide) (ok_move rfl (vl rfl)) ?_
          refine Ch.op rfl rfl (by decide) (ok_move rfl (vl rfl)) ?_
          refine Ch.op rfl rfl (by decide) (ok_call rfl (w_RSame) ⟨⟨_, rfl, Pr.le_refl _⟩, ⟨_, rfl, Pr.le_refl _⟩, trivial⟩) ?_
          refine Ch.op rfl rfl (by decide) (ok_move rfl (vl rfl)) ?_
          refine Ch.cases 100 rfl (fun h9 => ?_) (fun h9 => ?_)
          ·
            have q9 := Nrm.nrm h9
            refine Ch.yes rfl rfl rfl h9 rfl (by decide) (ok_move rfl (vl rfl)) ?_
            refine Ch.yes rfl rfl rfl h9 rfl (by decide) (ok_move rfl (vl rfl)) ?_
            refine Ch.yes rfl rfl rfl h9 rfl (by decide) (ok_call rfl (w_RSame) ⟨⟨_, rfl, Pr.le_refl _⟩, ⟨_, rfl, Pr.le_refl _⟩, trivial⟩) ?_
            refine Ch.op rfl rfl (by decide) (ok_pick_t rfl (vl rfl) h9 (vl rfl)) ?_
            refine Ch.op rfl rfl (by decide) (ok_move rfl (vl rfl)) ?_
            refine Ch.cases 105 rfl (fun h10 => ?_) (fun h10 => ?_)
            ·
              have q10 := Nrm.nrm h10
              refine Ch.yes rfl rfl rfl h10 rfl (by decide) (ok_call rfl (w_awake) trivial) ?_
              refine Ch.op rfl rfl (by decide) (ok_pick_t rfl (vl rfl) h10 (vl rfl)) ?_
              refine Ch.op rfl rfl (by decide) (ok_assign rfl (vl rfl)) ?_
              refine Ch.nil ?_
              refine Fin.go ?_
              refine Tr.weak [(8, _)] ⟨⟨_, rfl, Pr.le_refl _⟩, trivial⟩ ?_
              refine Tr.ret ?_
              refine Fin.ret1 rfl (OutW.bse _ _) rfl ?_
              · first | exact Pr.le_refl _ | (refine int_eq ?_; simp_all; done) | (refine bool_eq ?_; simp_all; done) | (refine bool_eq ?_; simp_all; omega) | (refine int_eq ?_; omega)
            ·
              have q10 := Nrm.nrm h10
              exfalso; simp at h10
          ·
            have q9 := Nrm.nrm h9
            exfalso; simp at h9
theorem e_AssetRaw : Entry Tryz.prog 4 := ⟨_, Tryz.func4, rfl, rfl⟩

theorem opens_fct : Opens Tryz.prog 40 (fun _ : Fct => True) rowFc :=
  (opens_struct Tryz.underlying40 (by kernel_rfl) (opensF_cons (c := 1) rfl (by kernel_rfl) (opens_int Tryz.underlying3) (opensF_cons (c := 1) rfl (by kernel_rfl) (opens_string Tryz.underlying9) (opensF_cons (c := 1) rfl (by kernel_rfl) (opens_int Tryz.underlying3) (opensF_cons (c := 2) rfl (by kernel_rfl) (opens_struct Tryz.underlying38 (by kernel_rfl) (opensF_cons (c := 1) rfl (by kernel_rfl) (opens_int Tryz.underlying3) (opensF_cons (c := 1) rfl (by kernel_rfl) (opens_int Tryz.underlying3) (opensF_nil _ _)))) (opensF_cons (c := 1) rfl (by kernel_rfl) (opens_int Tryz.underlying3) (opensF_cons (c := 1) rfl (by kernel_rfl) (opens_string Tryz.underlying9) (opensF_cons (c := 1) rfl (by kernel_rfl) (opens_int Tryz.underlying3) (opensF_nil _ _))))))))).map (fun z => (⟨z.1, z.2.1.data.toList, z.2.2.1, z.2.2.2.1.1, z.2.2.2.1.2.1, z.2.2.2.2.1, z.2.2.2.2.2.1.data.toList, z.2.2.2.2.2.2.1⟩ : Fct)) (fun _ _ => trivial) (fun _ => rfl)
theorem opens_fcts : Opens Tryz.prog 29 (fun l : List Fct => (∀ z ∈ l, True) ∧ l.length ≤ maxLen) (fun l => [fcts l]) := opens_slice Tryz.underlying29 (by kernel_rfl) opens_fct
theorem opens_str : Opens Tryz.prog 9 (fun _ : List UInt8 => True) (fun s => [str s]) := (opens_string Tryz.underlying9).map (fun s => s.data.toList) (fun _ _ => trivial) (fun _ => rfl)

set_option maxRecDepth 40000 in
theorem assetRaw_lifted (os : Os) (started : os.Started) (H : Type) (enc : TypeId × Value → H) :
    ReturnsInHanded {} Tryz.checked os 4 .any (Rows.assetRawSpec.pre6 enc Tryz.prog Tryz.f4 Rows.assetRawRow.domain false) (Rows.assetRawSpec.post enc Tryz.prog Tryz.f4 false true false false) := by
  refine returnsInHanded_of_change (C := Tryz.checked) own0 started (by kernel_rfl) Tryz.func4
    (ChangeSpec.witness6 (enc := enc) (C := Tryz.checked) false ⟨#[], #[.slice none 0 0, .slice none 0 0, .string ⟨[].toArray⟩, .int .i64 0], []⟩ 8 (by kernel_rfl) (by kernel_rfl) (by kernel_rfl) (by kernel_rfl)) ?_
  intro W base args ds gs before hval0 hW hcnd _
  have hval : ∀ (j : Nat) t v, Tryz.f4.params[j]? = some t → args[j]? = some v → Value.okWide Tryz.prog W .any base t v := hval0
  have hW' := hW
  obtain ⟨p, q, hA0, hV, hpq, hfz, hnd⟩ := hW
  have hA : DataW.TrodAll enc Tryz.prog W 0 (fun _ => true) true Tryz.f4.params.toList args.toList ds p := hA0
  have hA' := hA
  rw [Tryz.params4] at hA hval
  obtain ⟨v0, v1, v2, v3, d0, d1, d2, d3, p0, p1, p2, p3, rfl, rfl, hp, h0, h1, h2, h3⟩ := trodAll_four hA
  obtain ⟨rfl, rfl⟩ := trodVars_none hV
  obtain ⟨a0, hr0, e0⟩ := arg_one (opens_fcts) h0 (by obtain ⟨_, _, _, rfl⟩ := okWide_slice Tryz.underlying29 (hval 0 29 v0 rfl rfl); rfl)
  obtain ⟨a1, hr1, e1⟩ := arg_one (opens_fcts) h1 (by obtain ⟨_, _, _, rfl⟩ := okWide_slice Tryz.underlying29 (hval 1 29 v1 rfl rfl); rfl)
  obtain ⟨a2, hr2, e2⟩ := arg_one (opens_str) h2 (by obtain ⟨_, rfl⟩ := okWide_string Tryz.underlying9 (hval 2 9 v2 rfl rfl); rfl)
  obtain ⟨a3, hr3, e3⟩ := arg_one (opens_int Tryz.underlying3) h3 (by obtain ⟨_, rfl⟩ := okWide_int Tryz.underlying3 (hval 3 3 v3 rfl rfl); rfl)
  refine ((w_AssetRaw).2 noM W [v0, v1, v2, v3] (noM_bd W) ⟨e0, e1, e2, e3, trivial⟩).mono fun e W' ⟨v, he, hv, hb⟩ => ?_
  subst he
  obtain rfl : v = .bool true := hv
  exact ⟨_, rfl, law_post laidOut0 (by kernel_rfl) rfl Tryz.underlying4 rfl hA' (by rw [hpq]; simp) hW' rfl hb⟩
set_option maxRecDepth 40000 in
theorem assetRaw_holds : Rows.AssetRawSaid :=
  OpenClaim.holds_of_wide 4 Tryz.f4 rfl rfl rfl rfl rfl rfl rfl ⟨rfl, rfl, rfl, rfl, rfl⟩ rfl rfl rfl rfl rfl (by kernel_rfl) Tryz.func4 (by kernel_rfl)
    (of_decide_eq_true (by kernel_rfl)) (by unfold Func.isWrapper; first | (rw [if_pos (by decide +kernel)]; kernel_rfl) | (rw [if_neg (by decide +kernel)]; exact ⟨rfl, rfl⟩))
    (fun os started H enc _ => assetRaw_lifted os started H enc)
end Go.Proofs.YthmnoekgicggnaaGreat
