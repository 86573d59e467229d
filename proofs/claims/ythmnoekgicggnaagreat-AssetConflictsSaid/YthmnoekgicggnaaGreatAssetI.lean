/-
  What the functions named below compute, proved from their text; printed by a program of our own.
-/
import Derived.Test.YthmnoekgicggnaaGreatTypes
import Derived.Test.YthmnoekgicggnaaGreatSlices
import Derived.Test.YthmnoekgicggnaaGreatDice
import Derived.Test.YthmnoekgicggnaaGreatEqs
import Derived.Test.YthmnoekgicggnaaGreatFindA
import Derived.Test.YthmnoekgicggnaaGreatFindB
import Derived.Test.YthmnoekgicggnaaGreatFindC
import Derived.Test.YthmnoekgicggnaaGreatFindD
import Derived.Test.YthmnoekgicggnaaGreatMakeF
import Derived.Test.YthmnoekgicggnaaGreatSortA
import Derived.Test.YthmnoekgicggnaaGreatSortB
import Derived.Test.YthmnoekgicggnaaGreatAssetA
import Derived.Test.YthmnoekgicggnaaGreatAssetB
import Derived.Test.YthmnoekgicggnaaGreatAssetC
import Derived.Test.YthmnoekgicggnaaGreatAssetD
import Derived.Test.YthmnoekgicggnaaGreatAssetE
import Derived.Test.YthmnoekgicggnaaGreatAssetF
import Derived.Test.YthmnoekgicggnaaGreatAssetG
import Derived.Test.YthmnoekgicggnaaGreatAssetH
import Derived.Test.YthmnoekgicggnaaGreatCoreX
namespace Go.Proofs.YthmnoekgicggnaaGreat
open Go Go.RowKit Cp

def allIdx (n : Nat) : List (Idx n) := (List.range n).pmap (fun (k : Nat) (h : k < n) => (⟨(k : Int), by omega, by omega⟩ : Idx n)) (fun _ hk => List.mem_range.1 hk)
theorem all_vals (n : Nat) : vals (allIdx n) = numsTo n := by
  unfold vals allIdx numsTo; rw [List.map_pmap]; exact List.pmap_eq_map ..
theorem all_len (n : Nat) : (allIdx n).length = n := by simp [allIdx]
theorem numsTo_at {n k : Nat} {x : Int} (h : (numsTo n)[k]? = some x) : x = k := by
  unfold numsTo at h
  rw [List.getElem?_map] at h
  cases hk : (List.range n)[k]? with
  | none => rw [hk] at h; cases h
  | some y =>
    rw [hk] at h
    have hlt := lt_of_at hk
    rw [List.length_range] at hlt
    rw [List.getElem?_range hlt] at hk
    simp at h hk; omega
theorem numsTo_asc (n : Nat) : Asc (numsTo n) := by
  intro j x y hx hy
  have h1 := numsTo_at hx
  have h2 := numsTo_at hy
  omega
theorem asc_pw {n : Nat} {l : List (Idx n)} (h : Asc (vals l)) : l.Pairwise fun a b => a.1 < b.1 := by
  rw [List.pairwise_iff_getElem]
  intro i j hi hj hij
  have e : ∀ (k : Nat) (hk : k < l.length), (vals l)[k]? = some l[k].1 := fun k hk => by unfold vals; rw [List.getElem?_map, List.getElem?_eq_getElem hk]; rfl
  exact asc_lt h (j - i - 1) i (e i hi) (by rw [show i + (j - i - 1 + 1) = j by omega]; exact e j hj)
abbrev keptA (l : List Fnd) (c : Int) : List (Idx l.length) := keptF l c (allIdx l.length)
abbrev confA (l : List Fnd) (c : Int) : List (Int × Int) := confP l (keptA l c) (keptA l c).length
def confS (l : List Fnd) : List (Idx l.length) → Nat
  | [] => 0
  | i :: r => (conT l i r).length + confS l r
theorem confP_S {l : List Fnd} {kept : List (Idx l.length)} : ∀ k, k ≤ kept.length → (confP l kept k).length + confS l (kept.drop k) = confS l kept
  | 0, _ => by simp [confP]
  | k + 1, h => by
    have ih := confP_S k (kept := kept) (by omega)
    obtain ⟨i, hi⟩ := at_ (l := kept) (k := k) (by omega)
    rw [drop_at hi] at ih
    rw [confP_at hi, List.length_append]
    have : confS l (i :: kept.drop (k + 1)) = (conT l i (kept.drop (k + 1))).length + confS l (kept.drop (k + 1)) := rfl
    omega
theorem confS_sub {l : List Fnd} {a b : List (Idx l.length)} (h : a.Sublist b) : confS l a ≤ confS l b := by
  induction h with
  | slnil => exact Nat.le_refl _
  | cons x h ih => exact Nat.le_trans ih (Nat.le_add_left _ _)
  | cons_cons x h ih =>
    exact Nat.add_le_add (by unfold conT; rw [List.length_map, List.length_map]; exact (h.filter _).length_le) ih
theorem kept_sub (l : List Fnd) {c d : Int} (h : c ≤ d) : (keptA l d).Sublist (keptA l c) := by
  have : keptA l d = (keptA l c).filter fun x => !decide ((fAt l x).conf < d) := by
    show keptF l d (allIdx _) = (keptF l c (allIdx _)).filter _
    unfold keptF
    rw [List.filter_filter]
    congr 1
    funext x
    rw [Bool.eq_iff_iff]; simp; omega
  rw [this]; exact List.filter_sublist
theorem conf_less (l : List Fnd) {c d : Int} (h : c ≤ d) : (confA l d).length ≤ (confA l c).length := by
  have h1 := confP_S (l := l) (kept := keptA l d) _ (Nat.le_refl _)
  have h2 := confP_S (l := l) (kept := keptA l c) _ (Nat.le_refl _)
  rw [List.drop_length] at h1 h2
  have h3 := confS_sub (kept_sub l h)
  have e : confS l [] = 0 := rfl
  show (confP l (keptA l d) (keptA l d).length).length ≤ (confP l (keptA l c) (keptA l c).length).length
  omega
theorem conf_mem {l : List Fnd} {kept : List (Idx l.length)} {c : Int × Int} (hp : kept.Pairwise fun a b => a.1 < b.1) : ∀ k, c ∈ confP l kept k → ∃ i y : Idx l.length, c = (i.1, y.1) ∧ i.1 < y.1 ∧ clash l i y = true ∧ i ∈ kept ∧ y ∈ kept
  | 0, h => by cases h
  | k + 1, h => by
    rcases List.mem_append.1 h with h | h
    · exact conf_mem hp k h
    · cases hk : kept[k]? with
      | none => rw [hk] at h; cases h
      | some i =>
        rw [hk] at h
        obtain ⟨y, hy, rfl⟩ := List.mem_map.1 h
        obtain ⟨hy1, hy2⟩ := List.mem_filter.1 hy
        have hd := drop_at hk
        have hp2 : (i :: kept.drop (k + 1)).Pairwise fun a b => a.1 < b.1 := by rw [← hd]; exact hp.drop
        exact ⟨i, y, rfl, (List.pairwise_cons.1 hp2).1 y hy1, hy2, List.mem_of_getElem? hk, List.mem_of_mem_drop hy1⟩
theorem plc_subj (f : Fnd) : (plcOf f).subj = f.subj := by
  unfold plcOf; split
  · rfl
  · split
    · rfl
    · split <;> rfl
theorem conf_at {l : List Fnd} {c : Int} {k : Nat} {x : Int × Int} (h : (confA l c)[k]? = some x) : ∃ p q : Fnd, 0 ≤ x.1 ∧ x.1 < x.2 ∧ x.2 < l.length ∧ l[x.1.toNat]? = some p ∧ l[x.2.toNat]? = some q ∧ p.day = q.day ∧ p.subj = q.subj ∧ c ≤ p.conf ∧ c ≤ q.conf ∧ ¬ (p.kind = q.kind ∧ (p.alg = q.alg ∧ p.bits = q.bits) ∧ p.num = q.num) := by
  have hpw : (keptA l c).Pairwise fun a b => a.1 < b.1 := (asc_pw (by rw [all_vals]; exact numsTo_asc _)).filter _
  obtain ⟨i, y, rfl, h1, h2, h3, h4⟩ := conf_mem hpw _ (List.mem_of_getElem? h)
  obtain ⟨h5, h6, h7⟩ := clash_iff.1 h2
  have h8 : ¬ (fAt l i).conf < c := by have := (List.mem_filter.1 h3).2; simpa using this
  have h9 : ¬ (fAt l y).conf < c := by have := (List.mem_filter.1 h4).2; simpa using this
  refine ⟨fAt l i, fAt l y, i.2.1, h1, y.2.2, fAt_at l i, fAt_at l y, h6, by rw [← plc_subj, ← plc_subj]; exact h5.1, by omega, by omega, ?_⟩
  rintro ⟨e1, ⟨e2, e3⟩, e4⟩
  unfold contraF at h7
  rw [decide_eq_true_eq] at h7
  rcases h7 with h7 | ⟨_, h7 | h7⟩
  · exact h7 e1
  · exact h7 ⟨e2, e3⟩
  · exact h7 e4
theorem w_ConfE {l : List Fnd} {c : Int} (hN : NormP l) (hf : ∀ f ∈ l, f.fits) (hc : 1 ≤ c ∧ c ≤ 100) (hl : l.length < 50) : Fun Tryz.prog 23 [fnds l, entP 0 (numsTo l.length), int c] (tup [conP (confA l c), int 0]) := by
  by_cases h0 : l = []
  · subst h0; exact w_Conf0 hN hf hc
  · have hne : allIdx l.length ≠ [] := by intro h; have := all_len l.length; rw [h] at this; exact h0 (List.eq_nil_of_length_eq_zero this.symm)
    have := w_ConfN (l := l) (n := 0) (c := c) (own := allIdx l.length) hN hf hc (by rw [all_vals]; exact numsTo_asc _) hne (by rw [all_len]; exact hl)
    rwa [show idxs (allIdx l.length) = ints (numsTo l.length) by rw [← all_vals, vals_idxs]] at this

set_option maxRecDepth 20000 in
theorem w_AssetConflicts {t : List Int} {a b : Int} (ha : 0 ≤ a ∧ a < 256) (hb : 0 ≤ b ∧ b < 256) : Fun Tryz.prog 5 [ints t, is (.int .u8 a), is (.int .u8 b)] (bool true) := by
  refine Fun.of Tryz.func5 rfl rfl (by exact Nat.le_of_ble_eq_true rfl) fun M0 w0 => ?_
  obtain ⟨ha1, ha2⟩ := ha
  obtain ⟨hb1, hb2⟩ := hb
  have hm1 : IntKind.i64.wrap (a.tmod 50) = a.tmod 50 := IntWalk.i64_in _ ⟨by have := Int.tmod_nonneg 50 ha1; omega, by have := Int.tmod_lt_of_pos a (show (0 : Int) < 50 by omega); omega⟩
  have hma := Int.tmod_nonneg 50 ha1
  have hma2 := Int.tmod_lt_of_pos a (show (0 : Int) < 50 by omega)
  have hmb := Int.tmod_nonneg 50 hb1
  have hmb2 := Int.tmod_lt_of_pos b (show (0 : Int) < 50 by omega)
  refine Tr.seq ?_
  refine Tr.reg0 ?_
  refine Ch.op rfl rfl (by decide) (ok_assign rfl (vl rfl)) ?_
  refine Ch.nil ?_
  refine Fin.go ?_
  refine Tr.seq ?_
  refine Tr.seq ?_
  refine Tr.reg0 ?_
  refine Ch.op rfl rfl (by decide) (ok_move rfl (vl rfl)) ?_
  refine Ch.op rfl rfl (by decide) (ok_call rfl (w_Light) ⟨⟨_, rfl, Pr.le_refl _⟩, trivial⟩) ?_
  refine Ch.op rfl rfl (by decide) (ok_not rfl (vl rfl)) ?_
  refine Ch.nil ?_
  refine Fin.go ?_
  refine Tr.cond rfl (fun h1 => ?_) (fun h1 => ?_)
  ·
    have q1 := Nrm.nrm h1
    refine Tr.seq ?_
    refine Tr.reg0 ?_
    refine Ch.op rfl rfl (by decide) (ok_call rfl (w_awake) trivial) ?_
    refine Ch.op rfl rfl (by decide) (ok_assign rfl (vl rfl)) ?_
    refine Ch.nil ?_
    refine Fin.go ?_
    refine Tr.ret ?_
    refine Fin.then_ret ?_
    refine Fin.ret1 rfl (OutW.bse _ _) rfl ?_
    · first | exact Pr.le_refl _ | (refine int_eq ?_; simp_all; done) | (refine bool_eq ?_; simp_all; done) | (refine bool_eq ?_; simp_all; omega) | (refine int_eq ?_; omega)
  ·
    have q1 := Nrm.nrm h1
    have ht4 : t.length ≤ 400 := by simpa using h1
    have ht9 : t.length ≤ 1000000000 := by omega
    refine Tr.skip ?_
    refine Fin.go ?_
    refine Tr.seq ?_
    refine Tr.regT ?_
    refine TO.op rfl rfl (by decide) (ok_move rfl (vl rfl)) ?_
    refine TO.pad ?_
    refine TO.efs 0 rfl rfl (by decide) (ef_call rfl rfl (by decide) rfl (w_Roll (l := t) ht9) ⟨⟨_, rfl, Pr.le_refl _⟩, trivial⟩) (fun v1 => ?_)
    refine TO.opn 23 0 _ rfl rfl (fun _ => rfl) (fun b1 => ?_)
    refine TO.op rfl rfl (by decide) (ok_assign rfl (vl rfl)) ?_
    refine TO.nil ?_
    refine Fin.go ?_
    refine Tr.seq ?_
    refine Tr.regT ?_
    refine TO.op rfl rfl (by decide) (ok_move rfl (vl rfl)) ?_
    refine TO.efc 0 rfl rfl (by decide) (ef_callc rfl rfl (by decide) rfl (w_Findings (m := 24) (by omega)) ⟨⟨_, rfl, Pr.le_refl _⟩, ⟨_, rfl, Pr.le_refl _⟩, trivial⟩) ?_
    refine TO.ex 25 rfl (fun z1 => TO.fact 25 rfl fun hz1 => ?_)
    refine TO.op rfl rfl (by decide) (ok_assign rfl (vl rfl)) ?_
    refine TO.nil ?_
    refine Fin.openD 0 rfl (fun s1 => ?_)
    refine Fin.go ?_
    refine Tr.seq ?_
    refine Tr.reg0 ?_
    refine Ch.op rfl rfl (by decide) (ok_move rfl (vl rfl)) ?_
    first
      | refine Ch.op rfl rfl (by decide) (ok_convI rfl Tryz.underlying5 Tryz.underlying3 (vl rfl) (by unfold InI; omega)) ?_
      | refine Ch.op rfl rfl (by decide) (ok_conv rfl Tryz.underlying5 Tryz.underlying3 (vl rfl)) ?_
    refine Ch.op rfl rfl (by decide) (ok_rem rfl (vl rfl) (vl rfl) (by omega)) ?_
    first
      | (refine Ch.op rfl rfl (by decide) (ok_add rfl (vl rfl) (vl rfl) ?hin) ?_; case hin => unfold InI; omega)
      | refine Ch.op rfl rfl (by decide) (ok_int rfl (vl rfl) (vl rfl) rfl) ?_
    refine Ch.op rfl rfl (by decide) (ok_move rfl (vl rfl)) ?_
    first
      | refine Ch.op rfl rfl (by decide) (ok_convI rfl Tryz.underlying5 Tryz.underlying3 (vl rfl) (by unfold InI; omega)) ?_
      | refine Ch.op rfl rfl (by decide) (ok_conv rfl Tryz.underlying5 Tryz.underlying3 (vl rfl)) ?_
    refine Ch.op rfl rfl (by decide) (ok_rem rfl (vl rfl) (vl rfl) (by omega)) ?_
    first
      | (refine Ch.op rfl rfl (by decide) (ok_add rfl (vl rfl) (vl rfl) ?hin) ?_; case hin => unfold InI; omega)
      | refine Ch.op rfl rfl (by decide) (ok_int rfl (vl rfl) (vl rfl) rfl) ?_
    refine Ch.op rfl rfl (by decide) (ok_move rfl (vl rfl)) ?_
    first
      | refine Ch.op rfl rfl (by decide) (ok_convI rfl Tryz.underlying5 Tryz.underlying3 (vl rfl) (by unfold InI; omega)) ?_
      | refine Ch.op rfl rfl (by decide) (ok_conv rfl Tryz.underlying5 Tryz.underlying3 (vl rfl)) ?_
    refine Ch.op rfl rfl (by decide) (ok_rem rfl (vl rfl) (vl rfl) (by omega)) ?_
    first
      | (refine Ch.op rfl rfl (by decide) (ok_add rfl (vl rfl) (vl rfl) ?hin) ?_; case hin => unfold InI; omega)
      | refine Ch.op rfl rfl (by decide) (ok_int rfl (vl rfl) (vl rfl) rfl) ?_
    refine Ch.op rfl rfl (by decide) (ok_assign rfl (vl rfl)) ?_
    refine Ch.op rfl rfl (by decide) (ok_assign rfl (vl rfl)) ?_
    refine Ch.nil ?_
    refine Fin.go ?_
    refine Tr.weak [(8, _), (9, _), (10, _)] ⟨⟨_, rfl, Pr.le_refl _⟩, ⟨_, rfl, Pr.le_refl _⟩, ⟨_, rfl, Pr.le_refl _⟩, trivial⟩ ?_
    refine Tr.seq ?_
    refine Tr.reg0 ?_
    refine Ch.op rfl rfl (by decide) (ok_move rfl (vl rfl)) ?_
    refine Ch.op rfl rfl (by decide) (ok_move rfl (vl rfl)) ?_
    refine Ch.op rfl rfl (by decide) (ok_call rfl (w_entity (by have := hz1.len; omega)) ⟨⟨_, rfl, Pr.le_refl _⟩, trivial⟩) ?_
    refine Ch.op rfl rfl (by decide) (ok_move rfl (vl rfl)) ?_
    refine Ch.op rfl rfl (by decide) (ok_call rfl (w_ConfE hz1.norm hz1.fits ⟨by omega, by omega⟩ (by have := hz1.len; omega)) ⟨⟨_, rfl, Pr.le_refl _⟩, ⟨_, rfl, Pr.le_refl _⟩, ⟨_, rfl, Pr.le_refl _⟩, trivial⟩) ?_
    refine Ch.op rfl rfl (by decide) (ok_move rfl (vl rfl)) ?_
    refine Ch.op rfl rfl (by decide) (ok_extract rfl (vl rfl) rfl) ?_
    refine Ch.op rfl rfl (by decide) (ok_extract rfl (vl rfl) rfl) ?_
    refine Ch.op rfl rfl (by decide) (ok_assign rfl (vl rfl)) ?_
    refine Ch.op rfl rfl (by decide) (ok_assign rfl (vl rfl)) ?_
    refine Ch.nil ?_
    refine Fin.go ?_
    refine Tr.seq ?_
    refine Tr.reg0 ?_
    refine Ch.op rfl rfl (by decide) (ok_move rfl (vl rfl)) ?_
    refine Ch.op rfl rfl (by decide) (ok_move rfl (vl rfl)) ?_
    refine Ch.op rfl rfl (by decide) (ok_call rfl (w_entity (by have := hz1.len; omega)) ⟨⟨_, rfl, Pr.le_refl _⟩, trivial⟩) ?_
    refine Ch.op rfl rfl (by decide) (ok_move rfl (vl rfl)) ?_
    refine Ch.op rfl rfl (by decide) (ok_call rfl (w_ConfE hz1.norm hz1.fits ⟨by omega, by omega⟩ (by have := hz1.len; omega)) ⟨⟨_, rfl, Pr.le_refl _⟩, ⟨_, rfl, Pr.le_refl _⟩, ⟨_, rfl, Pr.le_refl _⟩, trivial⟩) ?_
    refine Ch.op rfl rfl (by decide) (ok_move rfl (vl rfl)) ?_
    refine Ch.op rfl rfl (by decide) (ok_extract rfl (vl rfl) rfl) ?_
    refine Ch.op rfl rfl (by decide) (ok_extract rfl (vl rfl) rfl) ?_
    refine Ch.op rfl rfl (by decide) (ok_assign rfl (vl rfl)) ?_
    refine Ch.op rfl rfl (by decide) (ok_assign rfl (vl rfl)) ?_
    refine Ch.nil ?_
    refine Fin.go ?_
    refine Tr.weak [(8, _), (9, _), (11, _), (12, _), (13, _), (14, _)] ⟨⟨_, rfl, Pr.le_refl _⟩, ⟨_, rfl, Pr.le_refl _⟩, ⟨_, rfl, Pr.le_refl _⟩, ⟨_, rfl, Pr.le_refl _⟩, ⟨_, rfl, Pr.le_refl _⟩, ⟨_, rfl, Pr.le_refl _⟩, trivial⟩ ?_
    refine Tr.seq ?_
    refine Tr.seq ?_
    refine Tr.reg0 ?_
    refine Ch.op rfl rfl (by decide) (ok_move rfl (vl rfl)) ?_
    refine Ch.op rfl rfl (by decide) (ok_int rfl (vl rfl) (vl rfl) rfl) ?_
    refine Ch.op rfl rfl (by decide) (ok_move rfl (vl rfl)) ?_
    refine Ch.cases 56 rfl (fun h2 => ?_) (fun h2 => ?_)
    ·
      have q2 := Nrm.nrm h2
      exfalso; simp at h2
    ·
      have q2 := Nrm.nrm h2
      refine Ch.yes rfl rfl rfl h2 rfl (by decide) (ok_move rfl (vl rfl)) ?_
      refine Ch.yes rfl rfl rfl h2 rfl (by decide) (ok_int rfl (vl rfl) (vl rfl) rfl) ?_
      refine Ch.op rfl rfl (by decide) (ok_pick_f rfl (vl rfl) h2 (vl rfl)) ?_
      refine Ch.op rfl rfl (by decide) (ok_move rfl (vl rfl)) ?_
      refine Ch.cases 60 rfl (fun h3 => ?_) (fun h3 => ?_)
      ·
        have q3 := Nrm.nrm h3
        exfalso; simp at h3
      ·
        have q3 := Nrm.nrm h3
        refine Ch.yes rfl rfl rfl h3 rfl (by decide) (ok_move rfl (vl rfl)) ?_
        first
          | refine Ch.yes rfl rfl rfl h3 rfl (by decide) (ok_lenm rfl Tryz.underlying54 (vl rfl)) ?_
          | refine Ch.yes rfl rfl rfl h3 rfl (by decide) (ok_len rfl Tryz.underlying54 (vl rfl)) ?_
        refine Ch.yes rfl rfl rfl h3 rfl (by decide) (ok_move rfl (vl rfl)) ?_
        first
          | refine Ch.yes rfl rfl rfl h3 rfl (by decide) (ok_lenm rfl Tryz.underlying54 (vl rfl)) ?_
          | refine Ch.yes rfl rfl rfl h3 rfl (by decide) (ok_len rfl Tryz.underlying54 (vl rfl)) ?_
        refine Ch.yes rfl rfl rfl h3 rfl (by decide) (ok_int rfl (vl rfl) (vl rfl) rfl) ?_
        refine Ch.op rfl rfl (by decide) (ok_pick_f rfl (vl rfl) h3 (vl rfl)) ?_
        refine Ch.nil ?_
        refine Fin.go ?_
        refine Tr.weak [(8, _), (9, _), (11, _), (66, _)] ⟨⟨_, rfl, Pr.le_refl _⟩, ⟨_, rfl, Pr.le_refl _⟩, ⟨_, rfl, Pr.le_refl _⟩, ⟨_, rfl, Pr.le_refl _⟩, trivial⟩ ?_
        refine Tr.cond rfl (fun h4 => ?_) (fun h4 => ?_)
        ·
          have q4 := Nrm.nrm h4
          exfalso; have := conf_less z1 (c := (1 + (a).tmod 50)) (d := (1 + (a).tmod 50 + (b).tmod 50)) (by omega); omega
        ·
          have q4 := Nrm.nrm h4
          refine Tr.skip ?_
          refine Fin.go ?_
          refine Tr.seq ?_
          refine Tr.seq ?_
          refine Tr.reg0 ?_
          refine Ch.op rfl rfl (by decide) (ok_assign rfl (vl rfl)) ?_
          refine Ch.nil ?_
          refine Fin.go ?_
          refine Tr.block ?_
          refine Tr.loopD1V0 [(8, _), (9, _), (11, _)] ⟨⟨_, rfl, Pr.le_refl _⟩, ⟨_, rfl, Pr.le_refl _⟩, ⟨_, rfl, Pr.le_refl _⟩, trivial⟩ (fun (k : Nat) => [(15, int ((k : Nat) : Int))]) (fun (k : Nat) => Hp M0 w0 noS ([diceS b1 s1])) (fun (k : Nat) => k ≤ (confA z1 (1 + (a).tmod 50)).length) (fun (k : Nat) => (confA z1 (1 + (a).tmod 50)).length - k) (0)  (Nat.zero_le _) ⟨⟨_, rfl, Pr.le_refl _⟩, trivial⟩ (fun _ _ h => h) ?_
          rintro k  hk1
          skip
          refine Tr.seq ?_
          refine Tr.seq ?_
          refine Tr.reg0 ?_
          refine Ch.op rfl rfl (by decide) (ok_move rfl (vl rfl)) ?_
          refine Ch.op rfl rfl (by decide) (ok_move rfl (vl rfl)) ?_
          first
            | refine Ch.op rfl rfl (by decide) (ok_lenm rfl Tryz.underlying54 (vl rfl)) ?_
            | refine Ch.op rfl rfl (by decide) (ok_len rfl Tryz.underlying54 (vl rfl)) ?_
          refine Ch.op rfl rfl (by decide) (ok_int rfl (vl rfl) (vl rfl) rfl) ?_
          refine Ch.nil ?_
          refine Fin.go ?_
          refine Tr.cond rfl (fun h5 => ?_) (fun h5 => ?_)
          ·
            have q5 := Nrm.nrm h5
            have hkl : (keptA z1 (1 + (a).tmod 50)).length ≤ 24 := Nat.le_trans (kept_len ..) (by rw [all_len]; exact hz1.len)
            have hcl : (confA z1 (1 + (a).tmod 50)).length ≤ 24 * 24 := Nat.le_trans (confP_len ..) (Nat.mul_le_mul hkl hkl)
            have hk2 : k < (confA z1 (1 + (a).tmod 50)).length := lt_of_dec h5
            obtain ⟨x, hx⟩ := at_ hk2
            obtain ⟨p, q, hx1, hx2, hx3, hp, hq, hd, hsj, hcp, hcq, hne⟩ := conf_at hx
            refine Tr.skip ?_
            refine Fin.go ?_
            refine Tr.seq ?_
            refine Tr.block ?_
            refine Tr.seq ?_
            refine Tr.seq ?_
            refine Tr.reg1 mixed (by kernel_rfl) ?_
            refine Ch.op rfl rfl (by decide) (ok_move rfl (vl rfl)) ?_
            refine Ch.op rfl rfl (by decide) (ok_move rfl (vl rfl)) ?_
            refine Ch.op rfl rfl (by decide) (ok_indexAddr rfl Tryz.underlying54 sz58 (vl rfl) (vl rfl) (by omega) (row_at hx)) ?_
            refine Ch.op rfl rfl (by decide) (ok_fieldAddr rfl fo58_0 (vl rfl) rfl) ?_
            refine Ch.op rfl rfl (by decide) (ok_load1 rfl one3 (vl rfl)) ?_
            refine Ch.op rfl rfl (by decide) (ok_int rfl (vl rfl) (vl rfl) rfl) ?_
            refine Ch.op rfl rfl (by decide) (ok_move rfl (vl rfl)) ?_
            refine Ch.cases 79 rfl (fun h6 => ?_) (fun h6 => ?_)
            ·
              have q6 := Nrm.nrm h6
              exfalso; omega
            ·
              have q6 := Nrm.nrm h6
              refine Ch.yes rfl rfl rfl h6 rfl (by decide) (ok_move rfl (vl rfl)) ?_
              refine Ch.yes rfl rfl rfl h6 rfl (by decide) (ok_move rfl (vl rfl)) ?_
              refine Ch.yes rfl rfl rfl h6 rfl (by decide) (ok_indexAddr rfl Tryz.underlying54 sz58 (vl rfl) (vl rfl) (by omega) (row_at hx)) ?_
              refine Ch.yes rfl rfl rfl h6 rfl (by decide) (ok_fieldAddr rfl fo58_0 (vl rfl) rfl) ?_
              refine Ch.yes rfl rfl rfl h6 rfl (by decide) (ok_load1 rfl one3 (vl rfl)) ?_
              refine Ch.yes rfl rfl rfl h6 rfl (by decide) (ok_move rfl (vl rfl)) ?_
              refine Ch.yes rfl rfl rfl h6 rfl (by decide) (ok_move rfl (vl rfl)) ?_
              refine Ch.yes rfl rfl rfl h6 rfl (by decide) (ok_indexAddr rfl Tryz.underlying54 sz58 (vl rfl) (vl rfl) (by omega) (row_at hx)) ?_
              refine Ch.yes rfl rfl rfl h6 rfl (by decide) (ok_fieldAddr rfl fo58_1 (vl rfl) rfl) ?_
              refine Ch.yes rfl rfl rfl h6 rfl (by decide) (ok_load1 rfl one3 (vl rfl)) ?_
              refine Ch.yes rfl rfl rfl h6 rfl (by decide) (ok_int rfl (vl rfl) (vl rfl) rfl) ?_
              refine Ch.op rfl rfl (by decide) (ok_pick_f rfl (vl rfl) h6 (vl rfl)) ?_
              refine Ch.op rfl rfl (by decide) (ok_move rfl (vl rfl)) ?_
              refine Ch.cases 92 rfl (fun h7 => ?_) (fun h7 => ?_)
              ·
                have q7 := Nrm.nrm h7
                exfalso; omega
              ·
                have q7 := Nrm.nrm h7
                refine Ch.yes rfl rfl rfl h7 rfl (by decide) (ok_move rfl (vl rfl)) ?_
                refine Ch.yes rfl rfl rfl h7 rfl (by decide) (ok_move rfl (vl rfl)) ?_
                refine Ch.yes rfl rfl rfl h7 rfl (by decide) (ok_indexAddr rfl Tryz.underlying54 sz58 (vl rfl) (vl rfl) (by omega) (row_at hx)) ?_
                refine Ch.yes rfl rfl rfl h7 rfl (by decide) (ok_fieldAddr rfl fo58_1 (vl rfl) rfl) ?_
                refine Ch.yes rfl rfl rfl h7 rfl (by decide) (ok_load1 rfl one3 (vl rfl)) ?_
                refine Ch.yes rfl rfl rfl h7 rfl (by decide) (ok_move rfl (vl rfl)) ?_
                first
                  | refine Ch.yes rfl rfl rfl h7 rfl (by decide) (ok_lenm rfl Tryz.underlying27 (vl rfl)) ?_
                  | refine Ch.yes rfl rfl rfl h7 rfl (by decide) (ok_len rfl Tryz.underlying27 (vl rfl)) ?_
                refine Ch.yes rfl rfl rfl h7 rfl (by decide) (ok_int rfl (vl rfl) (vl rfl) rfl) ?_
                refine Ch.op rfl rfl (by decide) (ok_pick_f rfl (vl rfl) h7 (vl rfl)) ?_
                refine Ch.nil ?_
                refine Fin.go ?_
                refine Tr.weak [(8, _), (9, _), (11, _), (15, _), (101, _)] ⟨⟨_, rfl, Pr.le_refl _⟩, ⟨_, rfl, Pr.le_refl _⟩, ⟨_, rfl, Pr.le_refl _⟩, ⟨_, rfl, Pr.le_refl _⟩, ⟨_, rfl, Pr.le_refl _⟩, trivial⟩ ?_
                refine Tr.cond rfl (fun h8 => ?_) (fun h8 => ?_)
                ·
                  have q8 := Nrm.nrm h8
                  exfalso; omega
                ·
                  have q8 := Nrm.nrm h8
                  refine Tr.skip ?_
                  refine Fin.go ?_
                  refine Tr.seq ?_
                  refine Tr.pad ?_
                  refine Tr.pad ?_
                  refine Tr.regX mixed [none, none, none, none, none, none, none, none, none, none, none, none, none, none, none, none, some (0, 0, true, 16), some (0, 1, true, 17), some (16, 0, true, 16), some (17, 1, true, 17)] (by kernel_rfl) ?_
                  refine Cx.op rfl rfl (by decide) (fun _ => ok_move rfl (vl rfl)) ?_
                  refine Cx.op rfl rfl (by decide) (fun _ => ok_move rfl (vl rfl)) ?_
                  refine Cx.op rfl rfl (by decide) (fun _ => ok_move rfl (vl rfl)) ?_
                  refine Cx.op rfl rfl (by decide) (fun _ => ok_indexAddr rfl Tryz.underlying54 sz58 (vl rfl) (vl rfl) (by omega) (row_at hx)) ?_
                  refine Cx.op rfl rfl (by decide) (fun _ => ok_fieldAddr rfl fo58_0 (vl rfl) rfl) ?_
                  refine Cx.op rfl rfl (by decide) (fun _ => ok_load1 rfl one3 (vl rfl)) ?_
                  refine Cx.op rfl rfl (by decide) (fun _ => ok_indexAddr rfl Tryz.underlying27 sz42 (vl rfl) (vl rfl) (by omega) (row_atI hp)) ?_
                  refine Cx.op rfl rfl (by decide) (fun _ => ok_loadA rfl agg42 sz42 (vl rfl) rfl rfl) ?_
                  refine Cx.op rfl rfl (by decide) (fun _ => ok_move rfl (vl rfl)) ?_
                  refine Cx.op rfl rfl (by decide) (fun _ => ok_move rfl (vl rfl)) ?_
                  refine Cx.op rfl rfl (by decide) (fun _ => ok_move rfl (vl rfl)) ?_
                  refine Cx.op rfl rfl (by decide) (fun _ => ok_indexAddr rfl Tryz.underlying54 sz58 (vl rfl) (vl rfl) (by omega) (row_at hx)) ?_
                  refine Cx.op rfl rfl (by decide) (fun _ => ok_fieldAddr rfl fo58_1 (vl rfl) rfl) ?_
                  refine Cx.op rfl rfl (by decide) (fun _ => ok_load1 rfl one3 (vl rfl)) ?_
                  refine Cx.op rfl rfl (by decide) (fun _ => ok_indexAddr rfl Tryz.underlying27 sz42 (vl rfl) (vl rfl) (by omega) (row_atI hq)) ?_
                  refine Cx.op rfl rfl (by decide) (fun _ => ok_loadA rfl agg42 sz42 (vl rfl) rfl rfl) ?_
                  refine Cx.ef 0 rfl rfl (by decide) (ef_allocX rfl rfl (by decide) rfl z42 zo42) ?_
                  refine Cx.ef 1 rfl rfl (by decide) (ef_allocX rfl rfl (by decide) rfl z42 zo42) ?_
                  refine Cx.ef0 0 rfl rfl (ef_storeX rfl rfl rfl rfl (VL.le (vl rfl) (agg_cellsP _)) sz42 rfl rfl) ?_
                  refine Cx.ef0 1 rfl rfl (ef_storeX rfl rfl rfl rfl (VL.le (vl rfl) (agg_cellsP _)) sz42 rfl rfl) ?_
                  refine Cx.nil ⟨rfl, ?_⟩
                  refine FinX.open_ 0 16 rfl rfl (fun v2 => ?_)
                  refine FinX.open_ 1 17 rfl rfl (fun v3 => ?_)
                  refine FinX.done (AllC.cons (AllC.cons (AllC.cons (AllC.map _)))) ?_
                  refine Fin.opn 16 0 _ rfl rfl (fun _ => rfl) (fun b2 => ?_)
                  refine Fin.opn 17 1 _ rfl rfl (fun _ => rfl) (fun b3 => ?_)
                  refine Fin.go ?_
                  refine Tr.weak [(8, _), (9, _), (11, _), (15, _), (16, _), (17, _)] ⟨⟨_, rfl, Pr.le_refl _⟩, ⟨_, rfl, Pr.le_refl _⟩, ⟨_, rfl, Pr.le_refl _⟩, ⟨_, rfl, Pr.le_refl _⟩, ⟨_, rfl, Pr.le_refl _⟩, ⟨_, rfl, Pr.le_refl _⟩, trivial⟩ ?_
                  refine Tr.seq ?_
                  refine Tr.reg0 ?_
                  refine Ch.op rfl rfl (by decide) (okp_fieldAddr rfl fo42_3 (vl rfl)) ?_
                  refine Ch.op rfl rfl (by decide) (ok_rd 0 rfl (rd_load1 rfl one3 (vl rfl) rfl)) ?_
                  refine Ch.op rfl rfl (by decide) (okp_fieldAddr rfl fo42_3 (vl rfl)) ?_
                  refine Ch.op rfl rfl (by decide) (ok_rd 1 rfl (rd_load1 rfl one3 (vl rfl) rfl)) ?_
                  refine Ch.op rfl rfl (by decide) (ok_int rfl (vl rfl) (vl rfl) rfl) ?_
                  refine Ch.op rfl rfl (by decide) (ok_move rfl (vl rfl)) ?_
                  refine Ch.cases 123 rfl (fun h9 => ?_) (fun h9 => ?_)
                  ·
                    have q9 := Nrm.nrm h9
                    exfalso; omega
                  ·
                    have q9 := Nrm.nrm h9
                    refine Ch.yes rfl rfl rfl h9 rfl (by decide) (okp_fieldAddr rfl fo42_6 (vl rfl)) ?_
                    refine Ch.yes rfl rfl rfl h9 rfl (by decide) (ok_rd 0 rfl (rd_load1 rfl one9 (vl rfl) rfl)) ?_
                    refine Ch.yes rfl rfl rfl h9 rfl (by decide) (okp_fieldAddr rfl fo42_6 (vl rfl)) ?_
                    refine Ch.yes rfl rfl rfl h9 rfl (by decide) (ok_rd 1 rfl (rd_load1 rfl one9 (vl rfl) rfl)) ?_
                    refine Ch.yes rfl rfl rfl h9 rfl (by decide) (ok_nes rfl (vl rfl) (vl rfl)) ?_
                    refine Ch.op rfl rfl (by decide) (ok_pick_f rfl (vl rfl) h9 (vl rfl)) ?_
                    refine Ch.op rfl rfl (by decide) (ok_move rfl (vl rfl)) ?_
                    refine Ch.cases 130 rfl (fun h10 => ?_) (fun h10 => ?_)
                    ·
                      have q10 := Nrm.nrm h10
                      exfalso; simp [hsj] at h10
                    ·
                      have q10 := Nrm.nrm h10
                      refine Ch.yes rfl rfl rfl h10 rfl (by decide) (okp_fieldAddr rfl fo42_4 (vl rfl)) ?_
                      refine Ch.yes rfl rfl rfl h10 rfl (by decide) (ok_rd 0 rfl (rd_load1 rfl one3 (vl rfl) rfl)) ?_
                      refine Ch.yes rfl rfl rfl h10 rfl (by decide) (ok_move rfl (vl rfl)) ?_
                      refine Ch.yes rfl rfl rfl h10 rfl (by decide) (ok_int rfl (vl rfl) (vl rfl) rfl) ?_
                      refine Ch.op rfl rfl (by decide) (ok_pick_f rfl (vl rfl) h10 (vl rfl)) ?_
                      refine Ch.op rfl rfl (by decide) (ok_move rfl (vl rfl)) ?_
                      refine Ch.cases 136 rfl (fun h11 => ?_) (fun h11 => ?_)
                      ·
                        have q11 := Nrm.nrm h11
                        exfalso; omega
                      ·
                        have q11 := Nrm.nrm h11
                        refine Ch.yes rfl rfl rfl h11 rfl (by decide) (okp_fieldAddr rfl fo42_4 (vl rfl)) ?_
                        refine Ch.yes rfl rfl rfl h11 rfl (by decide) (ok_rd 1 rfl (rd_load1 rfl one3 (vl rfl) rfl)) ?_
                        refine Ch.yes rfl rfl rfl h11 rfl (by decide) (ok_move rfl (vl rfl)) ?_
                        refine Ch.yes rfl rfl rfl h11 rfl (by decide) (ok_int rfl (vl rfl) (vl rfl) rfl) ?_
                        refine Ch.op rfl rfl (by decide) (ok_pick_f rfl (vl rfl) h11 (vl rfl)) ?_
                        refine Ch.op rfl rfl (by decide) (ok_move rfl (vl rfl)) ?_
                        refine Ch.cases 142 rfl (fun h12 => ?_) (fun h12 => ?_)
                        ·
                          have q12 := Nrm.nrm h12
                          exfalso; omega
                        ·
                          have q12 := Nrm.nrm h12
                          refine Ch.yes rfl rfl rfl h12 rfl (by decide) (okp_fieldAddr rfl fo42_5 (vl rfl)) ?_
                          refine Ch.yes rfl rfl rfl h12 rfl (by decide) (ok_rd 0 rfl (rd_load1 rfl one3 (vl rfl) rfl)) ?_
                          refine Ch.yes rfl rfl rfl h12 rfl (by decide) (okp_fieldAddr rfl fo42_5 (vl rfl)) ?_
                          refine Ch.yes rfl rfl rfl h12 rfl (by decide) (ok_rd 1 rfl (rd_load1 rfl one3 (vl rfl) rfl)) ?_
                          refine Ch.yes rfl rfl rfl h12 rfl (by decide) (ok_int rfl (vl rfl) (vl rfl) rfl) ?_
                          refine Ch.yes rfl rfl rfl h12 rfl (by decide) (ok_move rfl (vl rfl)) ?_
                          refine Ch.cases 148 rfl (fun h13 => ?_) (fun h13 => ?_)
                          ·
                            have q13 := Nrm.nrm h13
                            refine Ch.yes rfl rfl rfl h13 rfl (by decide) (okp_fieldAddr rfl fo42_7 (vl rfl)) ?_
                            refine Ch.yes rfl rfl rfl h13 rfl (by decide) (ok_rd 0 rfl (rd_loadA rfl agg38 sz38 (vl rfl) rfl rfl)) ?_
                            refine Ch.yes rfl rfl rfl h13 rfl (by decide) (okp_fieldAddr rfl fo42_7 (vl rfl)) ?_
                            refine Ch.yes rfl rfl rfl h13 rfl (by decide) (ok_rd 1 rfl (rd_loadA rfl agg38 sz38 (vl rfl) rfl rfl)) ?_
                            refine Ch.yes rfl rfl rfl h13 rfl (by decide) (ok_eq38 rfl (vl rfl) (vl rfl)) ?_
                            refine Ch.yes rfl rfl rfl h12 rfl (by decide) (ok_pick_t rfl (vl rfl) h13 (vl rfl)) ?_
                            refine Ch.yes rfl rfl rfl h12 rfl (by decide) (ok_move rfl (vl rfl)) ?_
                            refine Ch.cases 155 rfl (fun h14 => ?_) (fun h14 => ?_)
                            ·
                              have q14 := Nrm.nrm h14
                              refine Ch.yes rfl rfl rfl h14 rfl (by decide) (okp_fieldAddr rfl fo42_8 (vl rfl)) ?_
                              refine Ch.yes rfl rfl rfl h14 rfl (by decide) (ok_rd 0 rfl (rd_load1 rfl one3 (vl rfl) rfl)) ?_
                              refine Ch.yes rfl rfl rfl h14 rfl (by decide) (okp_fieldAddr rfl fo42_8 (vl rfl)) ?_
                              refine Ch.yes rfl rfl rfl h14 rfl (by decide) (ok_rd 1 rfl (rd_load1 rfl one3 (vl rfl) rfl)) ?_
                              refine Ch.yes rfl rfl rfl h14 rfl (by decide) (ok_int rfl (vl rfl) (vl rfl) rfl) ?_
                              refine Ch.yes rfl rfl rfl h12 rfl (by decide) (ok_pick_t rfl (vl rfl) h14 (vl rfl)) ?_
                              refine Ch.op rfl rfl (by decide) (ok_pick_f rfl (vl rfl) h12 (vl rfl)) ?_
                              refine Ch.nil ?_
                              refine Fin.go ?_
                              refine Tr.drop 0 ?_
                              refine Tr.drop 0 ?_
                              refine Tr.weak [(8, _), (9, _), (11, _), (15, _), (162, _)] ⟨⟨_, rfl, Pr.le_refl _⟩, ⟨_, rfl, Pr.le_refl _⟩, ⟨_, rfl, Pr.le_refl _⟩, ⟨_, rfl, Pr.le_refl _⟩, ⟨_, rfl, Pr.le_refl _⟩, trivial⟩ ?_
                              refine Tr.cond rfl (fun h15 => ?_) (fun h15 => ?_)
                              ·
                                have q15 := Nrm.nrm h15
                                exfalso; apply hne; simp_all
                              ·
                                have q15 := Nrm.nrm h15
                                refine Tr.skip ?_
                                refine Fin.block ?_
                                refine Fin.go ?_
                                refine Tr.reg0 ?_
                                refine Ch.op rfl rfl (by decide) (ok_move rfl (vl rfl)) ?_
                                first
                                  | (refine Ch.op rfl rfl (by decide) (ok_add rfl (vl rfl) (vl rfl) ?hin) ?_; case hin => unfold InI; omega)
                                  | refine Ch.op rfl rfl (by decide) (ok_int rfl (vl rfl) (vl rfl) rfl) ?_
                                refine Ch.op rfl rfl (by decide) (ok_assign rfl (vl rfl)) ?_
                                refine Ch.nil ?_
                                exact Fin.famD1V0 (k + 1)  (⟨by omega, by omega⟩) ⟨⟨_, rfl, int_succ k⟩, ⟨_, rfl, Pr.le_refl _⟩, ⟨_, rfl, Pr.le_refl _⟩, ⟨_, rfl, Pr.le_refl _⟩, trivial⟩ (fun _ _ h => h)
                            ·
                              have q14 := Nrm.nrm h14
                              refine Ch.no rfl rfl rfl (ne_true h14) rfl (by decide) ?_
                              refine Ch.no rfl rfl rfl (ne_true h14) rfl (by decide) ?_
                              refine Ch.no rfl rfl rfl (ne_true h14) rfl (by decide) ?_
                              refine Ch.no rfl rfl rfl (ne_true h14) rfl (by decide) ?_
                              refine Ch.no rfl rfl rfl (ne_true h14) rfl (by decide) ?_
                              refine Ch.yes rfl rfl rfl h12 rfl (by decide) (ok_pick_f rfl (vl rfl) h14 (vl rfl)) ?_
                              refine Ch.op rfl rfl (by decide) (ok_pick_f rfl (vl rfl) h12 (vl rfl)) ?_
                              refine Ch.nil ?_
                              refine Fin.go ?_
                              refine Tr.drop 0 ?_
                              refine Tr.drop 0 ?_
                              refine Tr.weak [(8, _), (9, _), (11, _), (15, _), (162, _)] ⟨⟨_, rfl, Pr.le_refl _⟩, ⟨_, rfl, Pr.le_refl _⟩, ⟨_, rfl, Pr.le_refl _⟩, ⟨_, rfl, Pr.le_refl _⟩, ⟨_, rfl, Pr.le_refl _⟩, trivial⟩ ?_
                              refine Tr.cond rfl (fun h => nomatch h) (fun _ => ?_)
                              refine Tr.skip ?_
                              refine Fin.block ?_
                              refine Fin.go ?_
                              refine Tr.reg0 ?_
                              refine Ch.op rfl rfl (by decide) (ok_move rfl (vl rfl)) ?_
                              first
                                | (refine Ch.op rfl rfl (by decide) (ok_add rfl (vl rfl) (vl rfl) ?hin) ?_; case hin => unfold InI; omega)
                                | refine Ch.op rfl rfl (by decide) (ok_int rfl (vl rfl) (vl rfl) rfl) ?_
                              refine Ch.op rfl rfl (by decide) (ok_assign rfl (vl rfl)) ?_
                              refine Ch.nil ?_
                              exact Fin.famD1V0 (k + 1)  (⟨by omega, by omega⟩) ⟨⟨_, rfl, int_succ k⟩, ⟨_, rfl, Pr.le_refl _⟩, ⟨_, rfl, Pr.le_refl _⟩, ⟨_, rfl, Pr.le_refl _⟩, trivial⟩ (fun _ _ h => h)
                          ·
                            have q13 := Nrm.nrm h13
                            refine Ch.no rfl rfl rfl (ne_true h13) rfl (by decide) ?_
                            refine Ch.no rfl rfl rfl (ne_true h13) rfl (by decide) ?_
                            refine Ch.no rfl rfl rfl (ne_true h13) rfl (by decide) ?_
                            refine Ch.no rfl rfl rfl (ne_true h13) rfl (by decide) ?_
                            refine Ch.no rfl rfl rfl (ne_true h13) rfl (by decide) ?_
                            refine Ch.yes rfl rfl rfl h12 rfl (by decide) (ok_pick_f rfl (vl rfl) h13 (vl rfl)) ?_
                            refine Ch.yes rfl rfl rfl h12 rfl (by decide) (ok_move rfl (vl rfl)) ?_
                            refine Ch.no rfl rfl rfl (by decide) rfl (by decide) ?_
                            refine Ch.no rfl rfl rfl (by decide) rfl (by decide) ?_
                            refine Ch.no rfl rfl rfl (by decide) rfl (by decide) ?_
                            refine Ch.no rfl rfl rfl (by decide) rfl (by decide) ?_
                            refine Ch.no rfl rfl rfl (by decide) rfl (by decide) ?_
                            refine Ch.yes rfl rfl rfl h12 rfl (by decide) (ok_pick_f rfl (vl rfl) rfl (vl rfl)) ?_
                            refine Ch.op rfl rfl (by decide) (ok_pick_f rfl (vl rfl) h12 (vl rfl)) ?_
                            refine Ch.nil ?_
                            refine Fin.go ?_
                            refine Tr.drop 0 ?_
                            refine Tr.drop 0 ?_
                            refine Tr.weak [(8, _), (9, _), (11, _), (15, _), (162, _)] ⟨⟨_, rfl, Pr.le_refl _⟩, ⟨_, rfl, Pr.le_refl _⟩, ⟨_, rfl, Pr.le_refl _⟩, ⟨_, rfl, Pr.le_refl _⟩, ⟨_, rfl, Pr.le_refl _⟩, trivial⟩ ?_
                            refine Tr.cond rfl (fun h => nomatch h) (fun _ => ?_)
                            refine Tr.skip ?_
                            refine Fin.block ?_
                            refine Fin.go ?_
                            refine Tr.reg0 ?_
                            refine Ch.op rfl rfl (by decide) (ok_move rfl (vl rfl)) ?_
                            first
                              | (refine Ch.op rfl rfl (by decide) (ok_add rfl (vl rfl) (vl rfl) ?hin) ?_; case hin => unfold InI; omega)
                              | refine Ch.op rfl rfl (by decide) (ok_int rfl (vl rfl) (vl rfl) rfl) ?_
                            refine Ch.op rfl rfl (by decide) (ok_assign rfl (vl rfl)) ?_
                            refine Ch.nil ?_
                            exact Fin.famD1V0 (k + 1)  (⟨by omega, by omega⟩) ⟨⟨_, rfl, int_succ k⟩, ⟨_, rfl, Pr.le_refl _⟩, ⟨_, rfl, Pr.le_refl _⟩, ⟨_, rfl, Pr.le_refl _⟩, trivial⟩ (fun _ _ h => h)
          ·
            have q5 := Nrm.nrm h5
            have := h5
            refine Tr.exit ?_
            refine Fin.then_exit ?_
            refine Fin.then_exit ?_
            refine Fin.block_here ?_
            refine Fin.go ?_
            refine Tr.seq ?_
            refine Tr.reg0 ?_
            refine Ch.op rfl rfl (by decide) (ok_call rfl (w_awake) trivial) ?_
            refine Ch.op rfl rfl (by decide) (ok_assign rfl (vl rfl)) ?_
            refine Ch.nil ?_
            refine Fin.go ?_
            refine Tr.ret ?_
            refine Fin.ret1 rfl (OutW.bse _ _) rfl ?_
            · first | exact Pr.le_refl _ | (refine int_eq ?_; simp_all; done) | (refine bool_eq ?_; simp_all; done) | (refine bool_eq ?_; simp_all; omega) | (refine int_eq ?_; omega)
theorem e_AssetConflicts : Entry Tryz.prog 5 := ⟨_, Tryz.func5, rfl, rfl⟩
end Go.Proofs.YthmnoekgicggnaaGreat
