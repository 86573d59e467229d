/-
  What the functions named below compute, proved from their text; printed by a program of our own.
-/
import Derived.Test.YthmnoekgicggnaaGreatTypes
import Derived.Test.YthmnoekgicggnaaGreatSlices
import Derived.Test.YthmnoekgicggnaaGreatEqs
import Derived.Test.YthmnoekgicggnaaGreatCat
import Derived.Test.YthmnoekgicggnaaGreatCat2
import Derived.Test.YthmnoekgicggnaaGreatCat3
import Derived.Test.YthmnoekgicggnaaGreatCat5
import Derived.Test.YthmnoekgicggnaaGreatFindA
import Derived.Test.YthmnoekgicggnaaGreatFindB
import Derived.Test.YthmnoekgicggnaaGreatFindC
import Derived.Test.YthmnoekgicggnaaGreatFindD
import Derived.Test.YthmnoekgicggnaaGreatSortA
import Derived.Test.YthmnoekgicggnaaGreatAssetA
import Derived.Test.YthmnoekgicggnaaGreatAssetB
namespace Go.Proofs.YthmnoekgicggnaaGreat
open Go Go.RowKit Cp
set_option maxRecDepth 20000 in
theorem w_ins1F {rows : List (List Pr)} {b : Int} (hb : b ≤ 1) : Fun Tryz.prog 105 [slice 8 rows, int 0, int b, any] (unit_) := by
  refine Fun.of Tryz.func105 rfl rfl (by exact Nat.le_of_ble_eq_true rfl) fun M0 w0 => ?_
  refine Tr.seq ?_
  refine Tr.reg0 ?_
  refine Ch.op rfl rfl (by decide) (ok_move rfl (vl rfl)) ?_
  first
    | (refine Ch.op rfl rfl (by decide) (ok_add rfl (vl rfl) (vl rfl) ?hin) ?_; case hin => unfold InI; omega)
    | refine Ch.op rfl rfl (by decide) (ok_int rfl (vl rfl) (vl rfl) rfl) ?_
  refine Ch.op rfl rfl (by decide) (ok_assign rfl (vl rfl)) ?_
  refine Ch.nil ?_
  refine Fin.go ?_
  refine Tr.block ?_
  refine Tr.loopw [(0, _), (1, _), (2, _), (3, _)] ⟨⟨_, rfl, Pr.le_refl _⟩, ⟨_, rfl, Pr.le_refl _⟩, ⟨_, rfl, Pr.le_refl _⟩, ⟨_, rfl, Pr.le_refl _⟩, trivial⟩ (fun i : Int => [(8, int i)]) (fun i : Int => i = 1) (fun i : Int => 0) 1 (rfl) ⟨⟨_, rfl, Pr.le_refl _⟩, trivial⟩ ?_
  rintro i hi
  refine Tr.seq ?_
  refine Tr.seq ?_
  refine Tr.reg0 ?_
  refine Ch.op rfl rfl (by decide) (ok_move rfl (vl rfl)) ?_
  refine Ch.op rfl rfl (by decide) (ok_move rfl (vl rfl)) ?_
  refine Ch.op rfl rfl (by decide) (ok_int rfl (vl rfl) (vl rfl) rfl) ?_
  refine Ch.nil ?_
  refine Fin.go ?_
  refine Tr.cond rfl (fun h1 => ?_) (fun h1 => ?_)
  ·
    have q1 := Nrm.nrm h1
    have := h1
    exfalso; omega
  ·
    have q1 := Nrm.nrm h1
    have := h1
    refine Tr.exit ?_
    refine Fin.then_exit ?_
    refine Fin.then_exit ?_
    refine Fin.block_here ?_
    exact Fin.ret0 rfl
theorem e_ins1F : Entry Tryz.prog 105 := ⟨_, Tryz.func105, rfl, rfl⟩
set_option maxRecDepth 20000 in
theorem w_pdq1F {rows : List (List Pr)} {b : Int} (h0 : 0 ≤ b) (hb : b ≤ 1) : Fun Tryz.prog 65 [slice 8 rows, int 0, int b, any, any] (unit_) := by
  refine Fun.of Tryz.func65 rfl rfl (by exact Nat.le_of_ble_eq_true rfl) fun M0 w0 => ?_
  refine Tr.seq ?_
  refine Tr.reg0 ?_
  refine Ch.op rfl rfl (by decide) (ok_assign rfl (vl rfl)) ?_
  refine Ch.nil ?_
  refine Fin.go ?_
  refine Tr.seq ?_
  refine Tr.reg0 ?_
  refine Ch.op rfl rfl (by decide) (ok_assign rfl (vl rfl)) ?_
  refine Ch.nil ?_
  refine Fin.go ?_
  refine Tr.block ?_
  refine Tr.loopw [(0, _), (4, _)] ⟨⟨_, rfl, Pr.le_refl _⟩, ⟨_, rfl, Pr.le_refl _⟩, trivial⟩ (fun (u : Unit) => [(1, int 0), (2, int b)]) (fun (u : Unit) => True) (fun (u : Unit) => 0) () (trivial) ⟨⟨_, rfl, Pr.le_refl _⟩, ⟨_, rfl, Pr.le_refl _⟩, trivial⟩ ?_
  rintro u _
  refine Tr.block ?_
  refine Tr.seq ?_
  refine Tr.reg0 ?_
  refine Ch.op rfl rfl (by decide) (ok_move rfl (vl rfl)) ?_
  refine Ch.op rfl rfl (by decide) (ok_move rfl (vl rfl)) ?_
  first
    | (refine Ch.op rfl rfl (by decide) (ok_sub rfl (vl rfl) (vl rfl) ?hin) ?_; case hin => unfold InI; omega)
    | refine Ch.op rfl rfl (by decide) (ok_int rfl (vl rfl) (vl rfl) rfl) ?_
  refine Ch.op rfl rfl (by decide) (ok_assign rfl (vl rfl)) ?_
  refine Ch.nil ?_
  refine Fin.go ?_
  refine Tr.seq ?_
  refine Tr.seq ?_
  refine Tr.reg0 ?_
  refine Ch.op rfl rfl (by decide) (ok_move rfl (vl rfl)) ?_
  refine Ch.op rfl rfl (by decide) (ok_int rfl (vl rfl) (vl rfl) rfl) ?_
  refine Ch.nil ?_
  refine Fin.go ?_
  refine Tr.cond rfl (fun h1 => ?_) (fun h1 => ?_)
  ·
    have q1 := Nrm.nrm h1
    refine Tr.seq ?_
    refine Tr.reg0 ?_
    refine Ch.op rfl rfl (by decide) (ok_move rfl (vl rfl)) ?_
    refine Ch.op rfl rfl (by decide) (ok_move rfl (vl rfl)) ?_
    refine Ch.op rfl rfl (by decide) (ok_move rfl (vl rfl)) ?_
    refine Ch.op rfl rfl (by decide) (ok_move rfl (vl rfl)) ?_
    refine Ch.op rfl rfl (by decide) (ok_call rfl (w_ins1F (by omega)) ⟨⟨_, rfl, Pr.le_refl _⟩, ⟨_, rfl, Pr.le_refl _⟩, ⟨_, rfl, Pr.le_refl _⟩, ⟨_, rfl, Pr.le_refl _⟩, trivial⟩) ?_
    refine Ch.nil ?_
    refine Fin.go ?_
    refine Tr.weak [] trivial ?_
    refine Tr.ret ?_
    refine Fin.then_ret ?_
    refine Fin.block_ret ?_
    refine Fin.then_ret ?_
    refine Fin.block_ret ?_
    exact Fin.ret0r rfl
  ·
    have q1 := Nrm.nrm h1
    exfalso; omega
theorem e_pdq1F : Entry Tryz.prog 65 := ⟨_, Tryz.func65, rfl, rfl⟩
set_option maxRecDepth 20000 in
theorem w_Sort1F {rows : List (List Pr)} (hs : rows.length ≤ 1) : Fun Tryz.prog 38 [slice 8 rows, any] (unit_) := by
  refine Fun.of Tryz.func38 rfl rfl (by exact Nat.le_of_ble_eq_true rfl) fun M0 w0 => ?_
  have hw : IntKind.u64.wrap ((rows.length : Nat) : Int) = rows.length := IntWalk.u64_in _ ⟨by omega, by omega⟩
  refine Tr.seq ?_
  refine Tr.reg0 ?_
  refine Ch.op rfl rfl (by decide) (ok_move rfl (vl rfl)) ?_
  first
    | refine Ch.op rfl rfl (by decide) (ok_lenm rfl Tryz.underlying29 (vl rfl)) ?_
    | refine Ch.op rfl rfl (by decide) (ok_len rfl Tryz.underlying29 (vl rfl)) ?_
  refine Ch.op rfl rfl (by decide) (ok_assign rfl (vl rfl)) ?_
  refine Ch.nil ?_
  refine Fin.go ?_
  refine Tr.reg0 ?_
  refine Ch.op rfl rfl (by decide) (ok_move rfl (vl rfl)) ?_
  refine Ch.op rfl rfl (by decide) (ok_move rfl (vl rfl)) ?_
  refine Ch.op rfl rfl (by decide) (ok_move rfl (vl rfl)) ?_
  first
    | refine Ch.op rfl rfl (by decide) (ok_convI rfl Tryz.underlying3 Tryz.underlying105 (vl rfl) (by unfold InI; omega)) ?_
    | refine Ch.op rfl rfl (by decide) (ok_conv rfl Tryz.underlying3 Tryz.underlying105 (vl rfl)) ?_
  refine Ch.op rfl rfl (by decide) (ok_call rfl (w_BLen (by omega) (by omega)) ⟨⟨_, rfl, Pr.le_refl _⟩, trivial⟩) ?_
  refine Ch.op rfl rfl (by decide) (ok_move rfl (vl rfl)) ?_
  refine Ch.op rfl rfl (by decide) (ok_call rfl (w_pdq1F (rows := rows) (b := (rows.length : Int)) (by omega) (by omega)) ⟨⟨_, rfl, Pr.le_refl _⟩, ⟨_, rfl, Pr.le_refl _⟩, ⟨_, rfl, Pr.le_refl _⟩, ⟨_, rfl, le_any _⟩, ⟨_, rfl, le_any _⟩, trivial⟩) ?_
  refine Ch.nil ?_
  exact Fin.ret0 rfl
theorem e_Sort1F : Entry Tryz.prog 38 := ⟨_, Tryz.func38, rfl, rfl⟩

/-- A fact. -/
structure Fct where
  ent : Int
  subj : List UInt8
  kind : Int
  alg : Int
  bits : Int
  num : Int
  text : List UInt8
  fnd : Int
deriving DecidableEq
abbrev rowFc (f : Fct) : List Pr := [int f.ent, str f.subj, int f.kind, int f.alg, int f.bits, int f.num, str f.text, int f.fnd]
abbrev fcts (l : List Fct) : Pr := slice 8 (l.map rowFc)
abbrev better (f g : Fnd) : Prop := f.day > g.day ∨ f.day = g.day ∧ f.conf > g.conf
/-- What one more finding makes of the decisive ones. -/
def stepM (l : List Fnd) (t o : Int) (m : List (Plc × Int)) (i : Int) : List (Plc × Int) :=
  match l[i.toNat]? with
  | none => m
  | some f => if f.day > t ∨ f.day < t - o then m else match Cp.look m (plcOf f) with
    | none => updM m (plcOf f) i
    | some j => match l[j.toNat]? with
      | none => m
      | some g => if better f g then updM m (plcOf f) i else m
def decM (l : List Fnd) (own : List Int) (t o : Int) : List (Plc × Int) := own.foldl (stepM l t o) []
theorem dec_take {l : List Fnd} {own : List Int} {t o : Int} {k : Nat} {i : Int} (h : own[k]? = some i) : decM l (own.take (k + 1)) t o = stepM l t o (decM l (own.take k) t o) i := by
  unfold decM; rw [List.take_add_one, h, List.foldl_append]; rfl
theorem step_out {l : List Fnd} {t o : Int} {m : List (Plc × Int)} {i : Int} {f : Fnd} (hf : l[i.toNat]? = some f) (h : f.day > t ∨ f.day < t - o) : stepM l t o m i = m := by unfold stepM; rw [hf]; exact if_pos h
theorem step_new {l : List Fnd} {t o : Int} {m : List (Plc × Int)} {i : Int} {f : Fnd} (hf : l[i.toNat]? = some f) (h : ¬ (f.day > t ∨ f.day < t - o)) (hl : (Cp.look m (plcOf f)).isSome = false) : stepM l t o m i = updM m (plcOf f) i := by
  unfold stepM; rw [hf]
  show (if _ then _ else _) = _
  rw [if_neg h]
  cases h2 : Cp.look m (plcOf f) with
  | none => rfl
  | some j => rw [h2] at hl; cases hl
theorem step_old {l : List Fnd} {t o : Int} {m : List (Plc × Int)} {i : Int} {f g : Fnd} (hf : l[i.toNat]? = some f) (h : ¬ (f.day > t ∨ f.day < t - o)) (hl : (Cp.look m (plcOf f)).isSome = true) (hg : l[((Cp.look m (plcOf f)).getD 0).toNat]? = some g) : stepM l t o m i = if better f g then updM m (plcOf f) i else m := by
  unfold stepM; rw [hf]
  show (if _ then _ else _) = _
  rw [if_neg h]
  cases h2 : Cp.look m (plcOf f) with
  | none => rw [h2] at hl; cases hl
  | some j => rw [h2] at hg; simp only [Option.getD_some] at hg; simp only [hg]
theorem look_mem {m : List (Plc × Int)} {k : Plc} {j : Int} (h : Cp.look m k = some j) : ∃ p ∈ m, p.2 = j := by
  unfold Cp.look at h
  cases hf : m.find? fun p => decide (k = p.1) with
  | none => rw [hf] at h; cases h
  | some p => rw [hf] at h; simp at h; exact ⟨p, List.mem_of_find?_eq_some hf, h⟩
theorem upd_mem {m : List (Plc × Int)} {k : Plc} {v : Int} {p : Plc × Int} (h : p ∈ updM m k v) : p ∈ m ∨ p = (k, v) := by
  unfold updM at h
  split at h
  · exact (List.mem_or_eq_of_mem_set h)
  · simpa using h
abbrev ValsIn (m : List (Plc × Int)) (n : Nat) : Prop := ∀ p ∈ m, 0 ≤ p.2 ∧ p.2 < (n : Int)
theorem step_in {l : List Fnd} {t o : Int} {m : List (Plc × Int)} {i : Int} {n : Nat} (h : ValsIn m n) (hi : 0 ≤ i ∧ i < (n : Int)) : ValsIn (stepM l t o m i) n := by
  intro p hp
  have hu : ∀ k, p ∈ updM m k i → 0 ≤ p.2 ∧ p.2 < (n : Int) := fun k hk => by
    rcases upd_mem hk with h1 | rfl
    · exact h p h1
    · exact hi
  unfold stepM at hp
  split at hp
  · exact h p hp
  · split at hp
    · exact h p hp
    · split at hp
      · exact hu _ hp
      · split at hp
        · exact h p hp
        · split at hp
          · exact hu _ hp
          · exact h p hp
theorem dec_in {l : List Fnd} {t o : Int} {n : Nat} : ∀ (own : List Int) (m : List (Plc × Int)), ValsIn m n → InR own n → ValsIn (own.foldl (stepM l t o) m) n
  | [], _, h, _ => h
  | i :: own, m, h, hi => dec_in own _ (step_in h (hi i (by simp))) (fun j hj => hi j (List.mem_cons_of_mem _ hj))
theorem dec_in' {l : List Fnd} {t o : Int} {own : List Int} (k : Nat) (hi : InR own l.length) : ValsIn (decM l (own.take k) t o) l.length := dec_in _ [] (by intro p hp; simp at hp) (fun j hj => hi j (List.mem_of_mem_take hj))
theorem look_in {m : List (Plc × Int)} {n : Nat} (h : ValsIn m n) {k : Plc} (hs : (Cp.look m k).isSome = true) : 0 ≤ (Cp.look m k).getD 0 ∧ (Cp.look m k).getD 0 < (n : Int) := by
  cases h2 : Cp.look m k with
  | none => rw [h2] at hs; cases hs
  | some j => obtain ⟨p, hp, rfl⟩ := look_mem h2; exact h p hp
/-- The fact of a finding. -/
def factOf (l : List Fnd) (n i : Int) : Option Fct := match l[i.toNat]? with | some f => if f.kind = 8 then none else some ⟨n, f.subj, f.kind, f.alg, f.bits, f.num, f.text, i⟩ | none => none
def outF (l : List Fnd) (n : Int) (m : List (Plc × Int)) (seen : List Nat) : List Fct := seen.filterMap fun q => (m[q]?).bind fun p => factOf l n p.2
theorem nodup_sub : ∀ {l m : List Nat}, l.Nodup → (∀ q ∈ l, q ∈ m) → l.length ≤ m.length
  | [], _, _, _ => Nat.zero_le _
  | a :: l, m, hn, h => by
    have h1 := List.nodup_cons.1 hn
    have h2 := nodup_sub (l := l) (m := m.erase a) h1.2 (fun q hq => (List.mem_erase_of_ne (by rintro rfl; exact h1.1 hq)).2 (h q (List.mem_cons_of_mem _ hq)))
    have h3 := List.length_erase_of_mem (h a (by simp))
    have h4 : 0 < m.length := List.length_pos_of_mem (h a (by simp))
    simp only [List.length_cons]; omega
theorem nodup_len {m : Nat} {l : List Nat} (hn : l.Nodup) (h : ∀ q ∈ l, q < m) : l.length ≤ m := by
  simpa using nodup_sub hn (m := List.range m) (fun q hq => List.mem_range.2 (h q hq))
theorem outF_len (l : List Fnd) (n : Int) (m : List (Plc × Int)) (seen : List Nat) : (outF l n m seen).length ≤ seen.length := List.length_filterMap_le _ _
theorem fm_one {α β : Type} (f : α → Option β) (q : α) : [q].filterMap f = (f q).toList := by
  cases h : f q <;> simp [h]
theorem outF_snoc (l : List Fnd) (n : Int) (m : List (Plc × Int)) (seen : List Nat) (q : Nat) : outF l n m (seen ++ [q]) = outF l n m seen ++ ((m[q]?).bind fun p => factOf l n p.2).toList := by
  unfold outF; rw [List.filterMap_append, fm_one]
theorem seen_next {seen : List Nat} {q m : Nat} (hn : seen.Nodup) (hl : ∀ x ∈ seen, x < m) (hq : q ∉ seen) (hqm : q < m) : ((seen ++ [q]).Nodup ∧ ∀ x ∈ seen ++ [q], x < m) ∧ m - (seen ++ [q]).length < m - seen.length := by
  have h1 : (seen ++ [q]).Nodup := by
    rw [List.nodup_append]; exact ⟨hn, by simp, fun a ha b hb => by simp at hb; subst hb; rintro rfl; exact hq ha⟩
  have h2 : ∀ x ∈ seen ++ [q], x < m := fun x hx => by
    rcases List.mem_append.1 hx with h | h
    · exact hl x h
    · simp at h; subst h; exact hqm
  have h3 := nodup_len h1 h2
  refine ⟨⟨h1, h2⟩, ?_⟩
  simp only [List.length_append, List.length_cons, List.length_nil] at h3 ⊢; omega
theorem lt_of_at {α : Type} {l : List α} {k : Nat} {x : α} (h : l[k]? = some x) : k < l.length := by
  rcases Nat.lt_or_ge k l.length with h' | h'
  · exact h'
  · rw [List.getElem?_eq_none h'] at h; cases h
theorem fact_no {l : List Fnd} {n i : Int} {g : Fnd} (hg : l[i.toNat]? = some g) (h : g.kind = 8) : factOf l n i = none := by unfold factOf; rw [hg]; exact if_pos h
theorem fact_yes {l : List Fnd} {n i : Int} {g : Fnd} (hg : l[i.toNat]? = some g) (h : ¬ g.kind = 8) : factOf l n i = some ⟨n, g.subj, g.kind, g.alg, g.bits, g.num, g.text, i⟩ := by unfold factOf; rw [hg]; exact if_neg h
theorem outF_all {l : List Fnd} {n : Int} {m : List (Plc × Int)} {seen : List Nat} (h1 : m.length ≤ 1) (hn : seen.Nodup) (hlt : ∀ q ∈ seen, q < m.length) (hall : ∀ q, q < m.length → q ∈ seen) : outF l n m seen = m.filterMap fun p => factOf l n p.2 := by
  have hlen := nodup_len hn hlt
  match m, h1 with
  | [], _ =>
    have : seen = [] := List.eq_nil_of_length_eq_zero (by simpa using hlen)
    subst this; rfl
  | [p], _ =>
    have h0 := hall 0 (by simp)
    match seen, hlen with
    | [], _ => cases h0
    | [q], _ => simp at h0; subst h0; unfold outF; rw [fm_one, fm_one]; rfl
    | a :: b :: r, h => simp only [List.length_cons, List.length_nil] at h; omega

set_option maxRecDepth 20000 in
theorem w_Facts1 {l : List Fnd} {n t o : Int} {own : List Int} (hN : NormP l) (hf : ∀ f ∈ l, f.fits) (ht : 0 ≤ t ∧ t ≤ 40000) (ho : 0 ≤ o ∧ o ≤ 4000) (ha : Asc own) (hi : InR own l.length) (hs : own.length ≤ 12) (h1m : (decM l own t o).length ≤ 1) : Fun Tryz.prog 12 [fnds l, entP n own, int t, int o] (tup [fcts ((decM l own t o).filterMap fun p => factOf l n p.2), int 0]) := by
  refine Fun.of Tryz.func12 rfl rfl (by exact Nat.le_of_ble_eq_true rfl) fun M0 w0 => ?_
  haveI := Classical.propDecidable (NormP l)
  obtain ⟨ht1, ht2⟩ := ht
  obtain ⟨ho1, ho2⟩ := ho
  have hNl := hN.len
  refine Tr.seq ?_
  refine Tr.reg0 ?_
  refine Ch.op rfl rfl (by decide) (ok_box rfl (VL.le (vl rfl) (agg_cellsP _))) ?_
  refine Ch.op rfl rfl (by decide) (ok_assign rfl (vl rfl)) ?_
  refine Ch.op rfl rfl (by decide) (ok_assign rfl (vl rfl)) ?_
  refine Ch.nil ?_
  refine Fin.go ?_
  refine Tr.seq ?_
  refine Tr.reg0 ?_
  refine Ch.op rfl rfl (by decide) (ok_move rfl (vl rfl)) ?_
  refine Ch.op rfl rfl (by decide) (ok_loadA rfl agg35 sz35 (vl rfl) rfl rfl) ?_
  refine Ch.op rfl rfl (by decide) (ok_call rfl (w_indices (by assumption) (by assumption)) ⟨⟨_, rfl, Pr.le_refl _⟩, ⟨_, rfl, Pr.le_refl _⟩, trivial⟩) ?_
  refine Ch.op rfl rfl (by decide) (ok_move rfl (vl rfl)) ?_
  refine Ch.op rfl rfl (by decide) (ok_extract rfl (vl rfl) rfl) ?_
  refine Ch.op rfl rfl (by decide) (ok_extract rfl (vl rfl) rfl) ?_
  refine Ch.op rfl rfl (by decide) (ok_assign rfl (vl rfl)) ?_
  refine Ch.op rfl rfl (by decide) (ok_assign rfl (vl rfl)) ?_
  refine Ch.nil ?_
  refine Fin.go ?_
  refine Tr.seq ?_
  refine Tr.block ?_
  refine Tr.seq ?_
  refine Tr.reg0 ?_
  refine Ch.op rfl rfl (by decide) (ok_move rfl (vl rfl)) ?_
  refine Ch.op rfl rfl (by decide) (ok_call rfl (w_FNormal (by assumption)) ⟨⟨_, rfl, Pr.le_refl _⟩, trivial⟩) ?_
  refine Ch.op rfl rfl (by decide) (ok_not rfl (vl rfl)) ?_
  refine Ch.op rfl rfl (by decide) (ok_assign rfl (vl rfl)) ?_
  refine Ch.nil ?_
  refine Fin.go ?_
  refine Tr.weak [(0, _), (2, _), (3, _), (5, _), (10, _), (11, _), (28, _)] ⟨⟨_, rfl, Pr.le_refl _⟩, ⟨_, rfl, Pr.le_refl _⟩, ⟨_, rfl, Pr.le_refl _⟩, ⟨_, rfl, Pr.le_refl _⟩, ⟨_, rfl, Pr.le_refl _⟩, ⟨_, rfl, Pr.le_refl _⟩, ⟨_, rfl, Pr.le_refl _⟩, trivial⟩ ?_
  refine Tr.cond rfl (fun h1 => ?_) (fun h1 => ?_)
  ·
    have q1 := Nrm.nrm h1
    exfalso; simp_all
  ·
    have q1 := Nrm.nrm h1
    refine Tr.seq ?_
    refine Tr.reg0 ?_
    refine Ch.op rfl rfl (by decide) (ok_move rfl (vl rfl)) ?_
    refine Ch.op rfl rfl (by decide) (ok_int rfl (vl rfl) (vl rfl) rfl) ?_
    refine Ch.op rfl rfl (by decide) (ok_move rfl (vl rfl)) ?_
    refine Ch.cases 35 rfl (fun h2 => ?_) (fun h2 => ?_)
    ·
      have q2 := Nrm.nrm h2
      exfalso; omega
    ·
      have q2 := Nrm.nrm h2
      refine Ch.yes rfl rfl rfl h2 rfl (by decide) (ok_move rfl (vl rfl)) ?_
      refine Ch.yes rfl rfl rfl h2 rfl (by decide) (ok_int rfl (vl rfl) (vl rfl) rfl) ?_
      refine Ch.op rfl rfl (by decide) (ok_pick_f rfl (vl rfl) h2 (vl rfl)) ?_
      refine Ch.op rfl rfl (by decide) (ok_move rfl (vl rfl)) ?_
      refine Ch.cases 39 rfl (fun h3 => ?_) (fun h3 => ?_)
      ·
        have q3 := Nrm.nrm h3
        exfalso; omega
      ·
        have q3 := Nrm.nrm h3
        refine Ch.yes rfl rfl rfl h3 rfl (by decide) (ok_move rfl (vl rfl)) ?_
        refine Ch.yes rfl rfl rfl h3 rfl (by decide) (ok_int rfl (vl rfl) (vl rfl) rfl) ?_
        refine Ch.op rfl rfl (by decide) (ok_pick_f rfl (vl rfl) h3 (vl rfl)) ?_
        refine Ch.op rfl rfl (by decide) (ok_move rfl (vl rfl)) ?_
        refine Ch.cases 43 rfl (fun h4 => ?_) (fun h4 => ?_)
        ·
          have q4 := Nrm.nrm h4
          exfalso; omega
        ·
          have q4 := Nrm.nrm h4
          refine Ch.yes rfl rfl rfl h4 rfl (by decide) (ok_move rfl (vl rfl)) ?_
          refine Ch.yes rfl rfl rfl h4 rfl (by decide) (ok_int rfl (vl rfl) (vl rfl) rfl) ?_
          refine Ch.op rfl rfl (by decide) (ok_pick_f rfl (vl rfl) h4 (vl rfl)) ?_
          refine Ch.op rfl rfl (by decide) (ok_assign rfl (vl rfl)) ?_
          refine Ch.nil ?_
          refine Fin.go ?_
          refine Tr.weak [(0, _), (2, _), (3, _), (5, _), (10, _), (11, _), (32, _)] ⟨⟨_, rfl, Pr.le_refl _⟩, ⟨_, rfl, Pr.le_refl _⟩, ⟨_, rfl, Pr.le_refl _⟩, ⟨_, rfl, Pr.le_refl _⟩, ⟨_, rfl, Pr.le_refl _⟩, ⟨_, rfl, Pr.le_refl _⟩, ⟨_, rfl, Pr.le_refl _⟩, trivial⟩ ?_
          refine Tr.cond rfl (fun h5 => ?_) (fun h5 => ?_)
          ·
            have q5 := Nrm.nrm h5
            exfalso; omega
          ·
            have q5 := Nrm.nrm h5
            refine Tr.seq ?_
            refine Tr.reg0 ?_
            refine Ch.op rfl rfl (by decide) (ok_move rfl (vl rfl)) ?_
            refine Ch.op rfl rfl (by decide) (ok_not rfl (vl rfl)) ?_
            refine Ch.op rfl rfl (by decide) (ok_assign rfl (vl rfl)) ?_
            refine Ch.nil ?_
            refine Fin.go ?_
            refine Tr.cond rfl (fun h6 => ?_) (fun h6 => ?_)
            ·
              have q6 := Nrm.nrm h6
              exfalso; simp_all
            ·
              have q6 := Nrm.nrm h6
              refine Tr.skip ?_
              refine Fin.block ?_
              refine Fin.go ?_
              refine Tr.seq ?_
              refine Tr.regT ?_
              refine TO.mkmap encPl rfl rfl (by decide) rfl (fun b1 => ?_)
              refine TO.op rfl rfl (by decide) (ok_assign rfl (vl rfl)) ?_
              refine TO.nil ?_
              refine Fin.go ?_
              refine Tr.seq ?_
              refine Tr.seq ?_
              refine Tr.reg0 ?_
              refine Ch.op rfl rfl (by decide) (ok_move rfl (vl rfl)) ?_
              first
                | refine Ch.op rfl rfl (by decide) (ok_lenm rfl Tryz.underlying22 (vl rfl)) ?_
                | refine Ch.op rfl rfl (by decide) (ok_len rfl Tryz.underlying22 (vl rfl)) ?_
              refine Ch.op rfl rfl (by decide) (ok_move rfl (vl rfl)) ?_
              refine Ch.nil ?_
              refine Fin.go ?_
              refine Tr.weak [(0, _), (2, _), (3, _), (5, _), (12, _), (51, _), (52, _), (53, _)] ⟨⟨_, rfl, Pr.le_refl _⟩, ⟨_, rfl, Pr.le_refl _⟩, ⟨_, rfl, Pr.le_refl _⟩, ⟨_, rfl, Pr.le_refl _⟩, ⟨_, rfl, Pr.le_refl _⟩, ⟨_, rfl, Pr.le_refl _⟩, ⟨_, rfl, Pr.le_refl _⟩, ⟨_, rfl, Pr.le_refl _⟩, trivial⟩ ?_
              refine Tr.block ?_
              refine Tr.loopR [(0, _), (2, _), (3, _), (5, _), (12, _), (51, _), (52, _)] ⟨⟨_, rfl, Pr.le_refl _⟩, ⟨_, rfl, Pr.le_refl _⟩, ⟨_, rfl, Pr.le_refl _⟩, ⟨_, rfl, Pr.le_refl _⟩, ⟨_, rfl, Pr.le_refl _⟩, ⟨_, rfl, Pr.le_refl _⟩, ⟨_, rfl, Pr.le_refl _⟩, trivial⟩ (fun k : Nat => [(53, int ((k : Nat) : Int))]) (fun k : Nat => Hp M0 w0 noS ([mapR encPl b1 (decM l (own.take k) t o)])) (fun k : Nat => k ≤ (own).length) (fun k : Nat => (own).length - k) 0 (Nat.zero_le _) ⟨⟨_, rfl, Pr.le_refl _⟩, trivial⟩ (fun _ _ h => h) ?_
              rintro k hle_k
              refine Tr.seq ?_
              refine Tr.reg0 ?_
              refine Ch.op rfl rfl (by decide) (ok_int rfl (vl rfl) (vl rfl) rfl) ?_
              refine Ch.nil ?_
              refine Fin.go ?_
              refine Tr.seq ?_
              refine Tr.cond rfl (fun h7 => ?_) (fun h7 => ?_)
              ·
                have q7 := Nrm.nrm h7
                have hk_k : k < (own).length := lt_of_dec h7
                obtain ⟨i, hx_k⟩ := at_ hk_k
                have hii := hi i (List.mem_of_getElem? hx_k)
                obtain ⟨f, hf0⟩ := at_ (l := l) (k := i.toNat) (by omega)
                have hstep := dec_take (l := l) (t := t) (o := o) hx_k
                refine Tr.skip ?_
                refine Fin.go ?_
                refine Tr.seq ?_
                refine Tr.block ?_
                refine Tr.seq ?_
                refine Tr.reg0 ?_
                refine Ch.op rfl rfl (by decide) (ok_indexAddr rfl Tryz.underlying22 sz3 (vl rfl) (vl rfl) (by omega) (row_at hx_k)) ?_
                refine Ch.op rfl rfl (by decide) (ok_load1 rfl one3 (vl rfl)) ?_
                refine Ch.op rfl rfl (by decide) (ok_assign rfl (vl rfl)) ?_
                refine Ch.nil ?_
                refine Fin.go ?_
                refine Tr.seq ?_
                refine Tr.regT ?_
                refine TO.op rfl rfl (by decide) (ok_move rfl (vl rfl)) ?_
                refine TO.op rfl rfl (by decide) (ok_move rfl (vl rfl)) ?_
                refine TO.op rfl rfl (by decide) (ok_indexAddr rfl Tryz.underlying27 sz42 (vl rfl) (vl rfl) (by omega) (row_atI hf0)) ?_
                refine TO.op rfl rfl (by decide) (ok_loadA rfl agg42 sz42 (vl rfl) rfl rfl) ?_
                refine TO.alloc rfl rfl (by decide) rfl z42 zo42 (fun b2 => ?_)
                refine TO.store_all 0 rfl rfl rfl (vl rfl) (VL.le (vl rfl) (agg_cellsP _)) rfl sz42 rfl rfl ?_
                refine TO.freeze 0 15 rfl rfl ?_
                refine TO.nil ?_
                refine Fin.go ?_
                refine Tr.weak [(0, _), (2, _), (3, _), (5, _), (12, _), (14, _), (15, _), (51, _), (52, _), (53, _)] ⟨⟨_, rfl, Pr.le_refl _⟩, ⟨_, rfl, Pr.le_refl _⟩, ⟨_, rfl, Pr.le_refl _⟩, ⟨_, rfl, Pr.le_refl _⟩, ⟨_, rfl, Pr.le_refl _⟩, ⟨_, rfl, Pr.le_refl _⟩, ⟨_, rfl, Pr.le_refl _⟩, ⟨_, rfl, Pr.le_refl _⟩, ⟨_, rfl, Pr.le_refl _⟩, ⟨_, rfl, Pr.le_refl _⟩, trivial⟩ ?_
                refine Tr.seq ?_
                refine Tr.seq ?_
                refine Tr.reg0 ?_
                refine Ch.op rfl rfl (by decide) (ok_fieldAddr rfl fo42_3 (vl rfl) rfl) ?_
                refine Ch.op rfl rfl (by decide) (ok_load1 rfl one3 (vl rfl)) ?_
                refine Ch.op rfl rfl (by decide) (ok_move rfl (vl rfl)) ?_
                refine Ch.op rfl rfl (by decide) (ok_int rfl (vl rfl) (vl rfl) rfl) ?_
                refine Ch.op rfl rfl (by decide) (ok_move rfl (vl rfl)) ?_
                refine Ch.cases 65 rfl (fun h8 => ?_) (fun h8 => ?_)
                ·
                  have q8 := Nrm.nrm h8
                  refine Ch.no rfl rfl rfl (ne_false h8) rfl (by decide) ?_
                  refine Ch.no rfl rfl rfl (ne_false h8) rfl (by decide) ?_
                  refine Ch.no rfl rfl rfl (ne_false h8) rfl (by decide) ?_
                  refine Ch.no rfl rfl rfl (ne_false h8) rfl (by decide) ?_
                  refine Ch.no rfl rfl rfl (ne_false h8) rfl (by decide) ?_
                  refine Ch.no rfl rfl rfl (ne_false h8) rfl (by decide) ?_
                  refine Ch.op rfl rfl (by decide) (ok_pick_t rfl (vl rfl) h8 (vl rfl)) ?_
                  refine Ch.nil ?_
                  refine Fin.go ?_
                  refine Tr.weak [(0, _), (2, _), (3, _), (5, _), (12, _), (14, _), (15, _), (51, _), (52, _), (53, _), (72, _)] ⟨⟨_, rfl, Pr.le_refl _⟩, ⟨_, rfl, Pr.le_refl _⟩, ⟨_, rfl, Pr.le_refl _⟩, ⟨_, rfl, Pr.le_refl _⟩, ⟨_, rfl, Pr.le_refl _⟩, ⟨_, rfl, Pr.le_refl _⟩, ⟨_, rfl, Pr.le_refl _⟩, ⟨_, rfl, Pr.le_refl _⟩, ⟨_, rfl, Pr.le_refl _⟩, ⟨_, rfl, Pr.le_refl _⟩, ⟨_, rfl, Pr.le_refl _⟩, trivial⟩ ?_
                  refine Tr.cond rfl (fun _ => ?_) (fun h => nomatch h)
                  refine Tr.exit ?_
                  refine Fin.then_exit ?_
                  refine Fin.block_here ?_
                  refine Fin.go ?_
                  refine Tr.reg0 ?_
                  first
                    | (refine Ch.op rfl rfl (by decide) (ok_add rfl (vl rfl) (vl rfl) ?hin) ?_; case hin => unfold InI; omega)
                    | refine Ch.op rfl rfl (by decide) (ok_int rfl (vl rfl) (vl rfl) rfl) ?_
                  refine Ch.op rfl rfl (by decide) (ok_move rfl (vl rfl)) ?_
                  refine Ch.nil ?_
                  first
                    | rw [step_out hf0 (by omega)] at hstep
                    | rw [step_new hf0 (by omega) hsome0] at hstep
                    | rw [step_old hf0 (by omega) hsome hg, if_pos (by unfold better; omega)] at hstep
                    | rw [step_old hf0 (by omega) hsome hg, if_neg (by unfold better; omega)] at hstep
                  exact Fin.fam (k + 1) ⟨hk_k, by omega⟩ ⟨⟨_, rfl, int_succ k⟩, ⟨_, rfl, Pr.le_refl _⟩, ⟨_, rfl, Pr.le_refl _⟩, ⟨_, rfl, Pr.le_refl _⟩, ⟨_, rfl, Pr.le_refl _⟩, ⟨_, rfl, Pr.le_refl _⟩, ⟨_, rfl, Pr.le_refl _⟩, ⟨_, rfl, Pr.le_refl _⟩, trivial⟩ (fun _ _ h => by rw [hstep]; exact h)
                ·
                  have q8 := Nrm.nrm h8
                  refine Ch.yes rfl rfl rfl h8 rfl (by decide) (ok_fieldAddr rfl fo42_3 (vl rfl) rfl) ?_
                  refine Ch.yes rfl rfl rfl h8 rfl (by decide) (ok_load1 rfl one3 (vl rfl)) ?_
                  refine Ch.yes rfl rfl rfl h8 rfl (by decide) (ok_move rfl (vl rfl)) ?_
                  refine Ch.yes rfl rfl rfl h8 rfl (by decide) (ok_move rfl (vl rfl)) ?_
                  first
                    | (refine Ch.yes rfl rfl rfl h8 rfl (by decide) (ok_sub rfl (vl rfl) (vl rfl) ?hin) ?_; case hin => unfold InI; omega)
                    | refine Ch.yes rfl rfl rfl h8 rfl (by decide) (ok_int rfl (vl rfl) (vl rfl) rfl) ?_
                  refine Ch.yes rfl rfl rfl h8 rfl (by decide) (ok_int rfl (vl rfl) (vl rfl) rfl) ?_
                  refine Ch.op rfl rfl (by decide) (ok_pick_f rfl (vl rfl) h8 (vl rfl)) ?_
                  refine Ch.nil ?_
                  refine Fin.go ?_
                  refine Tr.weak [(0, _), (2, _), (3, _), (5, _), (12, _), (14, _), (15, _), (51, _), (52, _), (53, _), (72, _)] ⟨⟨_, rfl, Pr.le_refl _⟩, ⟨_, rfl, Pr.le_refl _⟩, ⟨_, rfl, Pr.le_refl _⟩, ⟨_, rfl, Pr.le_refl _⟩, ⟨_, rfl, Pr.le_refl _⟩, ⟨_, rfl, Pr.le_refl _⟩, ⟨_, rfl, Pr.le_refl _⟩, ⟨_, rfl, Pr.le_refl _⟩, ⟨_, rfl, Pr.le_refl _⟩, ⟨_, rfl, Pr.le_refl _⟩, ⟨_, rfl, Pr.le_refl _⟩, trivial⟩ ?_
                  refine Tr.cond rfl (fun h9 => ?_) (fun h9 => ?_)
                  ·
                    have q9 := Nrm.nrm h9
                    refine Tr.exit ?_
                    refine Fin.then_exit ?_
                    refine Fin.block_here ?_
                    refine Fin.go ?_
                    refine Tr.reg0 ?_
                    first
                      | (refine Ch.op rfl rfl (by decide) (ok_add rfl (vl rfl) (vl rfl) ?hin) ?_; case hin => unfold InI; omega)
                      | refine Ch.op rfl rfl (by decide) (ok_int rfl (vl rfl) (vl rfl) rfl) ?_
                    refine Ch.op rfl rfl (by decide) (ok_move rfl (vl rfl)) ?_
                    refine Ch.nil ?_
                    first
                      | rw [step_out hf0 (by omega)] at hstep
                      | rw [step_new hf0 (by omega) hsome0] at hstep
                      | rw [step_old hf0 (by omega) hsome hg, if_pos (by unfold better; omega)] at hstep
                      | rw [step_old hf0 (by omega) hsome hg, if_neg (by unfold better; omega)] at hstep
                    exact Fin.fam (k + 1) ⟨hk_k, by omega⟩ ⟨⟨_, rfl, int_succ k⟩, ⟨_, rfl, Pr.le_refl _⟩, ⟨_, rfl, Pr.le_refl _⟩, ⟨_, rfl, Pr.le_refl _⟩, ⟨_, rfl, Pr.le_refl _⟩, ⟨_, rfl, Pr.le_refl _⟩, ⟨_, rfl, Pr.le_refl _⟩, ⟨_, rfl, Pr.le_refl _⟩, trivial⟩ (fun _ _ h => by rw [hstep]; exact h)
                  ·
                    have q9 := Nrm.nrm h9
                    refine Tr.skip ?_
                    refine Fin.go ?_
                    refine Tr.seq ?_
                    refine Tr.regT ?_
                    refine TO.op rfl rfl (by decide) (ok_move rfl (vl rfl)) ?_
                    refine TO.op rfl rfl (by decide) (ok_loadA rfl agg42 sz42 (vl rfl) rfl rfl) ?_
                    refine TO.op rfl rfl (by decide) (ok_call rfl (w_placeOf) ⟨⟨_, rfl, Pr.le_refl _⟩, trivial⟩) ?_
                    refine TO.rd 0 rfl rfl rfl (by decide) (rd_lookup (plcOf f) mapT_place rfl (vl rfl) (vl rfl) (fun _ _ _ h => agg_is h)) ?_
                    refine TO.op rfl rfl (by decide) (ok_move rfl (vl rfl)) ?_
                    refine TO.op rfl rfl (by decide) (ok_extract rfl (vl rfl) rfl) ?_
                    refine TO.op rfl rfl (by decide) (ok_extract rfl (vl rfl) rfl) ?_
                    refine TO.op rfl rfl (by decide) (ok_assign rfl (vl rfl)) ?_
                    refine TO.op rfl rfl (by decide) (ok_assign rfl (vl rfl)) ?_
                    refine TO.nil ?_
                    refine Fin.go ?_
                    refine Tr.weak [(0, _), (2, _), (3, _), (5, _), (12, _), (14, _), (15, _), (16, _), (17, _), (51, _), (52, _), (53, _)] ⟨⟨_, rfl, Pr.le_refl _⟩, ⟨_, rfl, Pr.le_refl _⟩, ⟨_, rfl, Pr.le_refl _⟩, ⟨_, rfl, Pr.le_refl _⟩, ⟨_, rfl, Pr.le_refl _⟩, ⟨_, rfl, Pr.le_refl _⟩, ⟨_, rfl, Pr.le_refl _⟩, ⟨_, rfl, Pr.le_refl _⟩, ⟨_, rfl, Pr.le_refl _⟩, ⟨_, rfl, Pr.le_refl _⟩, ⟨_, rfl, Pr.le_refl _⟩, ⟨_, rfl, Pr.le_refl _⟩, trivial⟩ ?_
                    refine Tr.seq ?_
                    refine Tr.reg1 mixed (by kernel_rfl) ?_
                    refine Ch.op rfl rfl (by decide) (ok_move rfl (vl rfl)) ?_
                    refine Ch.op rfl rfl (by decide) (ok_not rfl (vl rfl)) ?_
                    refine Ch.op rfl rfl (by decide) (ok_move rfl (vl rfl)) ?_
                    refine Ch.cases 82 rfl (fun h10 => ?_) (fun h10 => ?_)
                    ·
                      have q10 := Nrm.nrm h10
                      have hsome0 : (Cp.look (decM l (own.take k) t o) (plcOf f)).isSome = false := by simpa using h10
                      refine Ch.no rfl rfl rfl (ne_false h10) rfl (by decide) ?_
                      refine Ch.no rfl rfl rfl (ne_false h10) rfl (by decide) ?_
                      refine Ch.no rfl rfl rfl (ne_false h10) rfl (by decide) ?_
                      refine Ch.no rfl rfl rfl (ne_false h10) rfl (by decide) ?_
                      refine Ch.no rfl rfl rfl (ne_false h10) rfl (by decide) ?_
                      refine Ch.no rfl rfl rfl (ne_false h10) rfl (by decide) ?_
                      refine Ch.no rfl rfl rfl (ne_false h10) rfl (by decide) ?_
                      refine Ch.no rfl rfl rfl (ne_false h10) rfl (by decide) ?_
                      refine Ch.op rfl rfl (by decide) (ok_pick_t rfl (vl rfl) h10 (vl rfl)) ?_
                      refine Ch.op rfl rfl (by decide) (ok_move rfl (vl rfl)) ?_
                      refine Ch.no rfl rfl rfl (by decide) rfl (by decide) ?_
                      refine Ch.no rfl rfl rfl (by decide) rfl (by decide) ?_
                      refine Ch.no rfl rfl rfl (by decide) rfl (by decide) ?_
                      refine Ch.no rfl rfl rfl (by decide) rfl (by decide) ?_
                      refine Ch.no rfl rfl rfl (by decide) rfl (by decide) ?_
                      refine Ch.no rfl rfl rfl (by decide) rfl (by decide) ?_
                      refine Ch.no rfl rfl rfl (by decide) rfl (by decide) ?_
                      refine Ch.no rfl rfl rfl (by decide) rfl (by decide) ?_
                      refine Ch.no rfl rfl rfl (by decide) rfl (by decide) ?_
                      refine Ch.un rfl rfl rfl rfl (by decide) ?_
                      refine Ch.un rfl rfl rfl rfl (by decide) ?_
                      refine Ch.un rfl rfl rfl rfl (by decide) ?_
                      refine Ch.un rfl rfl rfl rfl (by decide) ?_
                      refine Ch.un rfl rfl rfl rfl (by decide) ?_
                      refine Ch.un rfl rfl rfl rfl (by decide) ?_
                      refine Ch.un rfl rfl rfl rfl (by decide) ?_
                      refine Ch.un rfl rfl rfl rfl (by decide) ?_
                      refine Ch.no rfl rfl rfl (by decide) rfl (by decide) ?_
                      refine Ch.op rfl rfl (by decide) (ok_pick_t rfl (vl rfl) rfl (vl rfl)) ?_
                      refine Ch.nil ?_
                      refine Fin.go ?_
                      refine Tr.weak [(0, _), (2, _), (3, _), (5, _), (12, _), (14, _), (15, _), (51, _), (52, _), (53, _), (111, _)] ⟨⟨_, rfl, Pr.le_refl _⟩, ⟨_, rfl, Pr.le_refl _⟩, ⟨_, rfl, Pr.le_refl _⟩, ⟨_, rfl, Pr.le_refl _⟩, ⟨_, rfl, Pr.le_refl _⟩, ⟨_, rfl, Pr.le_refl _⟩, ⟨_, rfl, Pr.le_refl _⟩, ⟨_, rfl, Pr.le_refl _⟩, ⟨_, rfl, Pr.le_refl _⟩, ⟨_, rfl, Pr.le_refl _⟩, ⟨_, rfl, Pr.le_refl _⟩, trivial⟩ ?_
                      refine Tr.cond rfl (fun _ => ?_) (fun h => nomatch h)
                      refine Tr.regT ?_
                      refine TO.op rfl rfl (by decide) (ok_move rfl (vl rfl)) ?_
                      refine TO.op rfl rfl (by decide) (ok_loadA rfl agg42 sz42 (vl rfl) rfl rfl) ?_
                      refine TO.op rfl rfl (by decide) (ok_call rfl (w_placeOf) ⟨⟨_, rfl, Pr.le_refl _⟩, trivial⟩) ?_
                      refine TO.op rfl rfl (by decide) (ok_move rfl (vl rfl)) ?_
                      refine TO.ef0 0 rfl rfl (ef_mapupd (plcOf f) mapT_place rfl rfl rfl (vl rfl) (vl rfl) (fun _ _ _ h => agg_is h) (vl rfl)) ?_
                      refine TO.nil ?_
                      refine Fin.block ?_
                      refine Fin.go ?_
                      refine Tr.weak [(0, _), (2, _), (3, _), (5, _), (12, _), (51, _), (52, _), (53, _)] ⟨⟨_, rfl, Pr.le_refl _⟩, ⟨_, rfl, Pr.le_refl _⟩, ⟨_, rfl, Pr.le_refl _⟩, ⟨_, rfl, Pr.le_refl _⟩, ⟨_, rfl, Pr.le_refl _⟩, ⟨_, rfl, Pr.le_refl _⟩, ⟨_, rfl, Pr.le_refl _⟩, ⟨_, rfl, Pr.le_refl _⟩, trivial⟩ ?_
                      refine Tr.reg0 ?_
                      first
                        | (refine Ch.op rfl rfl (by decide) (ok_add rfl (vl rfl) (vl rfl) ?hin) ?_; case hin => unfold InI; omega)
                        | refine Ch.op rfl rfl (by decide) (ok_int rfl (vl rfl) (vl rfl) rfl) ?_
                      refine Ch.op rfl rfl (by decide) (ok_move rfl (vl rfl)) ?_
                      refine Ch.nil ?_
                      first
                        | rw [step_out hf0 (by omega)] at hstep
                        | rw [step_new hf0 (by omega) hsome0] at hstep
                        | rw [step_old hf0 (by omega) hsome hg, if_pos (by unfold better; omega)] at hstep
                        | rw [step_old hf0 (by omega) hsome hg, if_neg (by unfold better; omega)] at hstep
                      exact Fin.fam (k + 1) ⟨hk_k, by omega⟩ ⟨⟨_, rfl, int_succ k⟩, ⟨_, rfl, Pr.le_refl _⟩, ⟨_, rfl, Pr.le_refl _⟩, ⟨_, rfl, Pr.le_refl _⟩, ⟨_, rfl, Pr.le_refl _⟩, ⟨_, rfl, Pr.le_refl _⟩, ⟨_, rfl, Pr.le_refl _⟩, ⟨_, rfl, Pr.le_refl _⟩, trivial⟩ (fun _ _ h => by rw [hstep]; exact h)
                    ·
                      have q10 := Nrm.nrm h10
                      have hsome : (Cp.look (decM l (own.take k) t o) (plcOf f)).isSome = true := by simpa using h10
                      have hjj := look_in (dec_in' (t := t) (o := o) k hi) hsome
                      obtain ⟨g, hg⟩ := at_ (l := l) (k := ((Cp.look (decM l (own.take k) t o) (plcOf f)).getD 0).toNat) (by omega)
                      refine Ch.yes rfl rfl rfl h10 rfl (by decide) (ok_fieldAddr rfl fo42_3 (vl rfl) rfl) ?_
                      refine Ch.yes rfl rfl rfl h10 rfl (by decide) (ok_load1 rfl one3 (vl rfl)) ?_
                      refine Ch.yes rfl rfl rfl h10 rfl (by decide) (ok_move rfl (vl rfl)) ?_
                      refine Ch.yes rfl rfl rfl h10 rfl (by decide) (ok_move rfl (vl rfl)) ?_
                      refine Ch.yes rfl rfl rfl h10 rfl (by decide) (ok_indexAddr rfl Tryz.underlying27 sz42 (vl rfl) (vl rfl) (by omega) (row_atI hg)) ?_
                      refine Ch.yes rfl rfl rfl h10 rfl (by decide) (ok_fieldAddr rfl fo42_3 (vl rfl) rfl) ?_
                      refine Ch.yes rfl rfl rfl h10 rfl (by decide) (ok_load1 rfl one3 (vl rfl)) ?_
                      refine Ch.yes rfl rfl rfl h10 rfl (by decide) (ok_int rfl (vl rfl) (vl rfl) rfl) ?_
                      refine Ch.op rfl rfl (by decide) (ok_pick_f rfl (vl rfl) h10 (vl rfl)) ?_
                      refine Ch.op rfl rfl (by decide) (ok_move rfl (vl rfl)) ?_
                      refine Ch.cases 92 rfl (fun h11 => ?_) (fun h11 => ?_)
                      ·
                        have q11 := Nrm.nrm h11
                        refine Ch.no rfl rfl rfl (ne_false h11) rfl (by decide) ?_
                        refine Ch.no rfl rfl rfl (ne_false h11) rfl (by decide) ?_
                        refine Ch.no rfl rfl rfl (ne_false h11) rfl (by decide) ?_
                        refine Ch.no rfl rfl rfl (ne_false h11) rfl (by decide) ?_
                        refine Ch.no rfl rfl rfl (ne_false h11) rfl (by decide) ?_
                        refine Ch.no rfl rfl rfl (ne_false h11) rfl (by decide) ?_
                        refine Ch.no rfl rfl rfl (ne_false h11) rfl (by decide) ?_
                        refine Ch.no rfl rfl rfl (ne_false h11) rfl (by decide) ?_
                        refine Ch.no rfl rfl rfl (ne_false h11) rfl (by decide) ?_
                        refine Ch.un rfl rfl rfl rfl (by decide) ?_
                        refine Ch.un rfl rfl rfl rfl (by decide) ?_
                        refine Ch.un rfl rfl rfl rfl (by decide) ?_
                        refine Ch.un rfl rfl rfl rfl (by decide) ?_
                        refine Ch.un rfl rfl rfl rfl (by decide) ?_
                        refine Ch.un rfl rfl rfl rfl (by decide) ?_
                        refine Ch.un rfl rfl rfl rfl (by decide) ?_
                        refine Ch.un rfl rfl rfl rfl (by decide) ?_
                        refine Ch.no rfl rfl rfl (ne_false h11) rfl (by decide) ?_
                        refine Ch.op rfl rfl (by decide) (ok_pick_t rfl (vl rfl) h11 (vl rfl)) ?_
                        refine Ch.nil ?_
                        refine Fin.go ?_
                        refine Tr.weak [(0, _), (2, _), (3, _), (5, _), (12, _), (14, _), (15, _), (51, _), (52, _), (53, _), (111, _)] ⟨⟨_, rfl, Pr.le_refl _⟩, ⟨_, rfl, Pr.le_refl _⟩, ⟨_, rfl, Pr.le_refl _⟩, ⟨_, rfl, Pr.le_refl _⟩, ⟨_, rfl, Pr.le_refl _⟩, ⟨_, rfl, Pr.le_refl _⟩, ⟨_, rfl, Pr.le_refl _⟩, ⟨_, rfl, Pr.le_refl _⟩, ⟨_, rfl, Pr.le_refl _⟩, ⟨_, rfl, Pr.le_refl _⟩, ⟨_, rfl, Pr.le_refl _⟩, trivial⟩ ?_
                        refine Tr.cond rfl (fun _ => ?_) (fun h => nomatch h)
                        refine Tr.regT ?_
                        refine TO.op rfl rfl (by decide) (ok_move rfl (vl rfl)) ?_
                        refine TO.op rfl rfl (by decide) (ok_loadA rfl agg42 sz42 (vl rfl) rfl rfl) ?_
                        refine TO.op rfl rfl (by decide) (ok_call rfl (w_placeOf) ⟨⟨_, rfl, Pr.le_refl _⟩, trivial⟩) ?_
                        refine TO.op rfl rfl (by decide) (ok_move rfl (vl rfl)) ?_
                        refine TO.ef0 0 rfl rfl (ef_mapupd (plcOf f) mapT_place rfl rfl rfl (vl rfl) (vl rfl) (fun _ _ _ h => agg_is h) (vl rfl)) ?_
                        refine TO.nil ?_
                        refine Fin.block ?_
                        refine Fin.go ?_
                        refine Tr.weak [(0, _), (2, _), (3, _), (5, _), (12, _), (51, _), (52, _), (53, _)] ⟨⟨_, rfl, Pr.le_refl _⟩, ⟨_, rfl, Pr.le_refl _⟩, ⟨_, rfl, Pr.le_refl _⟩, ⟨_, rfl, Pr.le_refl _⟩, ⟨_, rfl, Pr.le_refl _⟩, ⟨_, rfl, Pr.le_refl _⟩, ⟨_, rfl, Pr.le_refl _⟩, ⟨_, rfl, Pr.le_refl _⟩, trivial⟩ ?_
                        refine Tr.reg0 ?_
                        first
                          | (refine Ch.op rfl rfl (by decide) (ok_add rfl (vl rfl) (vl rfl) ?hin) ?_; case hin => unfold InI; omega)
                          | refine Ch.op rfl rfl (by decide) (ok_int rfl (vl rfl) (vl rfl) rfl) ?_
                        refine Ch.op rfl rfl (by decide) (ok_move rfl (vl rfl)) ?_
                        refine Ch.nil ?_
                        first
                          | rw [step_out hf0 (by omega)] at hstep
                          | rw [step_new hf0 (by omega) hsome0] at hstep
                          | rw [step_old hf0 (by omega) hsome hg, if_pos (by unfold better; omega)] at hstep
                          | rw [step_old hf0 (by omega) hsome hg, if_neg (by unfold better; omega)] at hstep
                        exact Fin.fam (k + 1) ⟨hk_k, by omega⟩ ⟨⟨_, rfl, int_succ k⟩, ⟨_, rfl, Pr.le_refl _⟩, ⟨_, rfl, Pr.le_refl _⟩, ⟨_, rfl, Pr.le_refl _⟩, ⟨_, rfl, Pr.le_refl _⟩, ⟨_, rfl, Pr.le_refl _⟩, ⟨_, rfl, Pr.le_refl _⟩, ⟨_, rfl, Pr.le_refl _⟩, trivial⟩ (fun _ _ h => by rw [hstep]; exact h)
                      ·
                        have q11 := Nrm.nrm h11
                        refine Ch.yes rfl rfl rfl h11 rfl (by decide) (ok_fieldAddr rfl fo42_3 (vl rfl) rfl) ?_
                        refine Ch.yes rfl rfl rfl h11 rfl (by decide) (ok_load1 rfl one3 (vl rfl)) ?_
                        refine Ch.yes rfl rfl rfl h11 rfl (by decide) (ok_move rfl (vl rfl)) ?_
                        refine Ch.yes rfl rfl rfl h11 rfl (by decide) (ok_move rfl (vl rfl)) ?_
                        refine Ch.yes rfl rfl rfl h11 rfl (by decide) (ok_indexAddr rfl Tryz.underlying27 sz42 (vl rfl) (vl rfl) (by omega) (row_atI hg)) ?_
                        refine Ch.yes rfl rfl rfl h11 rfl (by decide) (ok_fieldAddr rfl fo42_3 (vl rfl) rfl) ?_
                        refine Ch.yes rfl rfl rfl h11 rfl (by decide) (ok_load1 rfl one3 (vl rfl)) ?_
                        refine Ch.yes rfl rfl rfl h11 rfl (by decide) (ok_int rfl (vl rfl) (vl rfl) rfl) ?_
                        refine Ch.yes rfl rfl rfl h11 rfl (by decide) (ok_move rfl (vl rfl)) ?_
                        refine Ch.cases 101 rfl (fun h12 => ?_) (fun h12 => ?_)
                        ·
                          have q12 := Nrm.nrm h12
                          refine Ch.yes rfl rfl rfl h12 rfl (by decide) (ok_fieldAddr rfl fo42_4 (vl rfl) rfl) ?_
                          refine Ch.yes rfl rfl rfl h12 rfl (by decide) (ok_load1 rfl one3 (vl rfl)) ?_
                          refine Ch.yes rfl rfl rfl h12 rfl (by decide) (ok_move rfl (vl rfl)) ?_
                          refine Ch.yes rfl rfl rfl h12 rfl (by decide) (ok_move rfl (vl rfl)) ?_
                          refine Ch.yes rfl rfl rfl h12 rfl (by decide) (ok_indexAddr rfl Tryz.underlying27 sz42 (vl rfl) (vl rfl) (by omega) (row_atI hg)) ?_
                          refine Ch.yes rfl rfl rfl h12 rfl (by decide) (ok_fieldAddr rfl fo42_4 (vl rfl) rfl) ?_
                          refine Ch.yes rfl rfl rfl h12 rfl (by decide) (ok_load1 rfl one3 (vl rfl)) ?_
                          refine Ch.yes rfl rfl rfl h12 rfl (by decide) (ok_int rfl (vl rfl) (vl rfl) rfl) ?_
                          refine Ch.yes rfl rfl rfl h11 rfl (by decide) (ok_pick_t rfl (vl rfl) h12 (vl rfl)) ?_
                          refine Ch.op rfl rfl (by decide) (ok_pick_f rfl (vl rfl) h11 (vl rfl)) ?_
                          refine Ch.nil ?_
                          refine Fin.go ?_
                          refine Tr.weak [(0, _), (2, _), (3, _), (5, _), (12, _), (14, _), (15, _), (51, _), (52, _), (53, _), (111, _)] ⟨⟨_, rfl, Pr.le_refl _⟩, ⟨_, rfl, Pr.le_refl _⟩, ⟨_, rfl, Pr.le_refl _⟩, ⟨_, rfl, Pr.le_refl _⟩, ⟨_, rfl, Pr.le_refl _⟩, ⟨_, rfl, Pr.le_refl _⟩, ⟨_, rfl, Pr.le_refl _⟩, ⟨_, rfl, Pr.le_refl _⟩, ⟨_, rfl, Pr.le_refl _⟩, ⟨_, rfl, Pr.le_refl _⟩, ⟨_, rfl, Pr.le_refl _⟩, trivial⟩ ?_
                          refine Tr.cond rfl (fun h13 => ?_) (fun h13 => ?_)
                          ·
                            have q13 := Nrm.nrm h13
                            refine Tr.regT ?_
                            refine TO.op rfl rfl (by decide) (ok_move rfl (vl rfl)) ?_
                            refine TO.op rfl rfl (by decide) (ok_loadA rfl agg42 sz42 (vl rfl) rfl rfl) ?_
                            refine TO.op rfl rfl (by decide) (ok_call rfl (w_placeOf) ⟨⟨_, rfl, Pr.le_refl _⟩, trivial⟩) ?_
                            refine TO.op rfl rfl (by decide) (ok_move rfl (vl rfl)) ?_
                            refine TO.ef0 0 rfl rfl (ef_mapupd (plcOf f) mapT_place rfl rfl rfl (vl rfl) (vl rfl) (fun _ _ _ h => agg_is h) (vl rfl)) ?_
                            refine TO.nil ?_
                            refine Fin.block ?_
                            refine Fin.go ?_
                            refine Tr.weak [(0, _), (2, _), (3, _), (5, _), (12, _), (51, _), (52, _), (53, _)] ⟨⟨_, rfl, Pr.le_refl _⟩, ⟨_, rfl, Pr.le_refl _⟩, ⟨_, rfl, Pr.le_refl _⟩, ⟨_, rfl, Pr.le_refl _⟩, ⟨_, rfl, Pr.le_refl _⟩, ⟨_, rfl, Pr.le_refl _⟩, ⟨_, rfl, Pr.le_refl _⟩, ⟨_, rfl, Pr.le_refl _⟩, trivial⟩ ?_
                            refine Tr.reg0 ?_
                            first
                              | (refine Ch.op rfl rfl (by decide) (ok_add rfl (vl rfl) (vl rfl) ?hin) ?_; case hin => unfold InI; omega)
                              | refine Ch.op rfl rfl (by decide) (ok_int rfl (vl rfl) (vl rfl) rfl) ?_
                            refine Ch.op rfl rfl (by decide) (ok_move rfl (vl rfl)) ?_
                            refine Ch.nil ?_
                            first
                              | rw [step_out hf0 (by omega)] at hstep
                              | rw [step_new hf0 (by omega) hsome0] at hstep
                              | rw [step_old hf0 (by omega) hsome hg, if_pos (by unfold better; omega)] at hstep
                              | rw [step_old hf0 (by omega) hsome hg, if_neg (by unfold better; omega)] at hstep
                            exact Fin.fam (k + 1) ⟨hk_k, by omega⟩ ⟨⟨_, rfl, int_succ k⟩, ⟨_, rfl, Pr.le_refl _⟩, ⟨_, rfl, Pr.le_refl _⟩, ⟨_, rfl, Pr.le_refl _⟩, ⟨_, rfl, Pr.le_refl _⟩, ⟨_, rfl, Pr.le_refl _⟩, ⟨_, rfl, Pr.le_refl _⟩, ⟨_, rfl, Pr.le_refl _⟩, trivial⟩ (fun _ _ h => by rw [hstep]; exact h)
                          ·
                            have q13 := Nrm.nrm h13
                            refine Tr.skip ?_
                            refine Fin.block ?_
                            refine Fin.go ?_
                            refine Tr.reg0 ?_
                            first
                              | (refine Ch.op rfl rfl (by decide) (ok_add rfl (vl rfl) (vl rfl) ?hin) ?_; case hin => unfold InI; omega)
                              | refine Ch.op rfl rfl (by decide) (ok_int rfl (vl rfl) (vl rfl) rfl) ?_
                            refine Ch.op rfl rfl (by decide) (ok_move rfl (vl rfl)) ?_
                            refine Ch.nil ?_
                            first
                              | rw [step_out hf0 (by omega)] at hstep
                              | rw [step_new hf0 (by omega) hsome0] at hstep
                              | rw [step_old hf0 (by omega) hsome hg, if_pos (by unfold better; omega)] at hstep
                              | rw [step_old hf0 (by omega) hsome hg, if_neg (by unfold better; omega)] at hstep
                            exact Fin.fam (k + 1) ⟨hk_k, by omega⟩ ⟨⟨_, rfl, int_succ k⟩, ⟨_, rfl, Pr.le_refl _⟩, ⟨_, rfl, Pr.le_refl _⟩, ⟨_, rfl, Pr.le_refl _⟩, ⟨_, rfl, Pr.le_refl _⟩, ⟨_, rfl, Pr.le_refl _⟩, ⟨_, rfl, Pr.le_refl _⟩, ⟨_, rfl, Pr.le_refl _⟩, trivial⟩ (fun _ _ h => by rw [hstep]; exact h)
                        ·
                          have q12 := Nrm.nrm h12
                          refine Ch.no rfl rfl rfl (ne_true h12) rfl (by decide) ?_
                          refine Ch.no rfl rfl rfl (ne_true h12) rfl (by decide) ?_
                          refine Ch.no rfl rfl rfl (ne_true h12) rfl (by decide) ?_
                          refine Ch.no rfl rfl rfl (ne_true h12) rfl (by decide) ?_
                          refine Ch.no rfl rfl rfl (ne_true h12) rfl (by decide) ?_
                          refine Ch.no rfl rfl rfl (ne_true h12) rfl (by decide) ?_
                          refine Ch.no rfl rfl rfl (ne_true h12) rfl (by decide) ?_
                          refine Ch.no rfl rfl rfl (ne_true h12) rfl (by decide) ?_
                          refine Ch.yes rfl rfl rfl h11 rfl (by decide) (ok_pick_f rfl (vl rfl) h12 (vl rfl)) ?_
                          refine Ch.op rfl rfl (by decide) (ok_pick_f rfl (vl rfl) h11 (vl rfl)) ?_
                          refine Ch.nil ?_
                          refine Fin.go ?_
                          refine Tr.weak [(0, _), (2, _), (3, _), (5, _), (12, _), (14, _), (15, _), (51, _), (52, _), (53, _), (111, _)] ⟨⟨_, rfl, Pr.le_refl _⟩, ⟨_, rfl, Pr.le_refl _⟩, ⟨_, rfl, Pr.le_refl _⟩, ⟨_, rfl, Pr.le_refl _⟩, ⟨_, rfl, Pr.le_refl _⟩, ⟨_, rfl, Pr.le_refl _⟩, ⟨_, rfl, Pr.le_refl _⟩, ⟨_, rfl, Pr.le_refl _⟩, ⟨_, rfl, Pr.le_refl _⟩, ⟨_, rfl, Pr.le_refl _⟩, ⟨_, rfl, Pr.le_refl _⟩, trivial⟩ ?_
                          refine Tr.cond rfl (fun h => nomatch h) (fun _ => ?_)
                          refine Tr.skip ?_
                          refine Fin.block ?_
                          refine Fin.go ?_
                          refine Tr.reg0 ?_
                          first
                            | (refine Ch.op rfl rfl (by decide) (ok_add rfl (vl rfl) (vl rfl) ?hin) ?_; case hin => unfold InI; omega)
                            | refine Ch.op rfl rfl (by decide) (ok_int rfl (vl rfl) (vl rfl) rfl) ?_
                          refine Ch.op rfl rfl (by decide) (ok_move rfl (vl rfl)) ?_
                          refine Ch.nil ?_
                          first
                            | rw [step_out hf0 (by omega)] at hstep
                            | rw [step_new hf0 (by omega) hsome0] at hstep
                            | rw [step_old hf0 (by omega) hsome hg, if_pos (by unfold better; omega)] at hstep
                            | rw [step_old hf0 (by omega) hsome hg, if_neg (by unfold better; omega)] at hstep
                          exact Fin.fam (k + 1) ⟨hk_k, by omega⟩ ⟨⟨_, rfl, int_succ k⟩, ⟨_, rfl, Pr.le_refl _⟩, ⟨_, rfl, Pr.le_refl _⟩, ⟨_, rfl, Pr.le_refl _⟩, ⟨_, rfl, Pr.le_refl _⟩, ⟨_, rfl, Pr.le_refl _⟩, ⟨_, rfl, Pr.le_refl _⟩, ⟨_, rfl, Pr.le_refl _⟩, trivial⟩ (fun _ _ h => by rw [hstep]; exact h)
              ·
                have q7 := Nrm.nrm h7
                have he_k : k = (own).length := by have := ge_of_dec h7; omega
                subst he_k
                rw [List.take_length]
                refine Tr.exit ?_
                refine Fin.then_exit ?_
                refine Fin.then_exit ?_
                refine Fin.block_here ?_
                refine Fin.go ?_
                refine Tr.seq ?_
                refine Tr.reg0 ?_
                refine Ch.op rfl rfl (by decide) (ok_assign rfl (vl rfl)) ?_
                refine Ch.nil ?_
                refine Fin.go ?_
                refine Tr.seq ?_
                refine Tr.seq ?_
                refine Tr.regT ?_
                refine TO.op rfl rfl (by decide) (ok_move rfl (vl rfl)) ?_
                refine TO.range mapT_place rfl rfl (by decide) rfl (vl rfl) (show _ = some (mapR encPl _ _) from rfl : _[0]? = _) (fun b3 => ?_)
                refine TO.nil ?_
                refine Fin.go ?_
                refine Tr.block ?_
                refine Tr.addnil 40 8 ?_
                refine Tr.loopD1V1 [(0, _), (5, _), (118, _)] ⟨⟨_, rfl, Pr.le_refl _⟩, ⟨_, rfl, Pr.le_refl _⟩, ⟨_, rfl, Pr.le_refl _⟩, trivial⟩ (fun (seen : List Nat) v => [(18, andIs v (fcts (outF l n (decM l own t o) seen)))]) (fun (seen : List Nat) v => Hp M0 w0 noS ([appRes 40 8 v, iterR b3 b1 (decM l own t o).length seen, mapR encPl b1 (decM l own t o)])) (fun (seen : List Nat) => seen.Nodup ∧ ∀ q ∈ seen, q < (decM l own t o).length) (fun (seen : List Nat) => (decM l own t o).length - seen.length) ([]) (.slice none 0 0) (⟨List.nodup_nil, fun q hq => by cases hq⟩) ⟨⟨_, rfl, own_nil rfl⟩, trivial⟩ (fun _ _ h => h) ?_
                rintro seen v ⟨hnd, hlt⟩
                refine Tr.seq ?_
                refine Tr.regT ?_
                refine TO.next (i := 1) (j := 2) rfl rfl (by decide) rfl (vl rfl) rfl rfl (fun hall1 => ?_) (fun q1 p1 hq1 hn1 => ?_)
                ·
                  refine TO.op rfl rfl (by decide) (ok_extract rfl (vl rfl) rfl) ?_
                  refine TO.nil ?_
                  refine Fin.go ?_
                  refine Tr.seq ?_
                  refine Tr.cond rfl (fun h => nomatch h) (fun _ => ?_)
                  refine Tr.exit ?_
                  refine Fin.then_exit ?_
                  refine Fin.then_exit ?_
                  refine Fin.block_here ?_
                  refine Fin.go ?_
                  refine Tr.seq ?_
                  refine Tr.reg0 ?_
                  refine Ch.op rfl rfl (by decide) (ok_move rfl (vl rfl)) ?_
                  refine Ch.op rfl rfl (by decide) (ok_call rfl (w_Sort1F (by rw [List.length_map]; exact Nat.le_trans (outF_len ..) (Nat.le_trans (nodup_len hnd hlt) h1m))) ⟨⟨_, rfl, andIs_le _ _⟩, ⟨_, rfl, le_any _⟩, trivial⟩) ?_
                  refine Ch.nil ?_
                  refine Fin.go ?_
                  refine Tr.seq ?_
                  refine Tr.reg0 ?_
                  refine Ch.op rfl rfl (by decide) (ok_move rfl (vl rfl)) ?_
                  refine Ch.op rfl rfl (by decide) (ok_assign rfl (vl rfl)) ?_
                  refine Ch.op rfl rfl (by decide) (ok_assign rfl (vl rfl)) ?_
                  refine Ch.nil ?_
                  refine Fin.go ?_
                  refine Tr.ret ?_
                  refine Fin.ret2 rfl (OutW.bse _ _) rfl ?_ rfl ?_
                  · refine Pr.le_trans (andIs_le _ _) (Pr.le_of_eq (by rw [outF_all h1m hnd hlt hall1]))
                  · first | exact Pr.le_refl _ | (refine int_eq ?_; simp_all; done) | (refine bool_eq ?_; simp_all; done) | (refine bool_eq ?_; simp_all; omega) | (refine int_eq ?_; omega)
                ·
                  refine TO.op rfl rfl (by decide) (ok_extract rfl (vl rfl) rfl) ?_
                  refine TO.nil ?_
                  refine Fin.go ?_
                  refine Tr.seq ?_
                  refine Tr.cond rfl (fun _ => ?_) (fun h => nomatch h)
                  refine Tr.skip ?_
                  refine Fin.go ?_
                  refine Tr.block ?_
                  refine Tr.seq ?_
                  have hin := (dec_in (l := l) (t := t) (o := o) own [] (by intro p hp; simp at hp) hi) p1 (List.mem_of_getElem? hq1)
                  obtain ⟨g, hg⟩ := at_ (l := l) (k := p1.2.toNat) (by omega)
                  have hof := outF_snoc l n (decM l own t o) seen q1
                  rw [hq1] at hof
                  have hol := Nat.le_trans (outF_len l n (decM l own t o) seen) (nodup_len hnd hlt)
                  refine Tr.regT ?_
                  refine TO.entry (i := 1) (j := 2) rfl rfl (by decide) rfl (vl rfl) rfl rfl hq1 ?_
                  refine TO.op rfl rfl (by decide) (ok_extract rfl (vl rfl) rfl) ?_
                  refine TO.op rfl rfl (by decide) (ok_assign rfl (vl rfl)) ?_
                  refine TO.nil ?_
                  refine Fin.go ?_
                  refine Tr.seq ?_
                  refine Tr.regT ?_
                  refine TO.op rfl rfl (by decide) (ok_move rfl (vl rfl)) ?_
                  refine TO.op rfl rfl (by decide) (ok_move rfl (vl rfl)) ?_
                  refine TO.op rfl rfl (by decide) (ok_indexAddr rfl Tryz.underlying27 sz42 (vl rfl) (vl rfl) (by omega) (row_atI hg)) ?_
                  refine TO.op rfl rfl (by decide) (ok_loadA rfl agg42 sz42 (vl rfl) rfl rfl) ?_
                  refine TO.alloc rfl rfl (by decide) rfl z42 zo42 (fun b4 => ?_)
                  refine TO.store_all 0 rfl rfl rfl (vl rfl) (VL.le (vl rfl) (agg_cellsP _)) rfl sz42 rfl rfl ?_
                  refine TO.freeze 0 21 rfl rfl ?_
                  refine TO.nil ?_
                  refine Fin.go ?_
                  refine Tr.weak [(0, _), (5, _), (18, _), (20, _), (21, _), (118, _)] ⟨⟨_, rfl, Pr.le_refl _⟩, ⟨_, rfl, Pr.le_refl _⟩, ⟨_, rfl, Pr.le_refl _⟩, ⟨_, rfl, Pr.le_refl _⟩, ⟨_, rfl, Pr.le_refl _⟩, ⟨_, rfl, Pr.le_refl _⟩, trivial⟩ ?_
                  refine Tr.seq ?_
                  refine Tr.reg0 ?_
                  refine Ch.op rfl rfl (by decide) (ok_fieldAddr rfl fo42_5 (vl rfl) rfl) ?_
                  refine Ch.op rfl rfl (by decide) (ok_load1 rfl one3 (vl rfl)) ?_
                  refine Ch.op rfl rfl (by decide) (ok_int rfl (vl rfl) (vl rfl) rfl) ?_
                  refine Ch.nil ?_
                  refine Fin.go ?_
                  refine Tr.cond rfl (fun h14 => ?_) (fun h14 => ?_)
                  ·
                    have q14 := Nrm.nrm h14
                    refine Tr.regT ?_
                    refine TO.op rfl rfl (by decide) (ok_move rfl (vl rfl)) ?_
                    refine TO.op rfl rfl (by decide) (ok_fieldAddr rfl fo35_0 (vl rfl) rfl) ?_
                    refine TO.op rfl rfl (by decide) (ok_load1 rfl one3 (vl rfl)) ?_
                    refine TO.op rfl rfl (by decide) (ok_fieldAddr rfl fo42_6 (vl rfl) rfl) ?_
                    refine TO.op rfl rfl (by decide) (ok_load1 rfl one9 (vl rfl)) ?_
                    refine TO.op rfl rfl (by decide) (ok_fieldAddr rfl fo42_5 (vl rfl) rfl) ?_
                    refine TO.op rfl rfl (by decide) (ok_load1 rfl one3 (vl rfl)) ?_
                    refine TO.op rfl rfl (by decide) (ok_fieldAddr rfl fo42_7 (vl rfl) rfl) ?_
                    refine TO.op rfl rfl (by decide) (ok_loadA rfl agg38 sz38 (vl rfl) rfl rfl) ?_
                    refine TO.op rfl rfl (by decide) (ok_fieldAddr rfl fo42_8 (vl rfl) rfl) ?_
                    refine TO.op rfl rfl (by decide) (ok_load1 rfl one3 (vl rfl)) ?_
                    refine TO.op rfl rfl (by decide) (ok_fieldAddr rfl fo42_9 (vl rfl) rfl) ?_
                    refine TO.op rfl rfl (by decide) (ok_load1 rfl one9 (vl rfl)) ?_
                    refine TO.op rfl rfl (by decide) (ok_move rfl (vl rfl)) ?_
                    refine TO.op rfl rfl (by decide) (ok_build (rows := [(0, [_]), (1, [_]), (2, [_]), (3, _), (4, [_]), (5, [_]), (6, [_])]) rfl bl40 zo40 ⟨⟨rfl, (VL.le (vl rfl) (one_cellsP _))⟩, ⟨⟨rfl, (VL.le (vl rfl) (one_cellsP _))⟩, ⟨⟨rfl, (VL.le (vl rfl) (one_cellsP _))⟩, ⟨⟨rfl, (VL.le (vl rfl) (agg_cellsP _))⟩, ⟨⟨rfl, (VL.le (vl rfl) (one_cellsP _))⟩, ⟨⟨rfl, (VL.le (vl rfl) (one_cellsP _))⟩, ⟨⟨rfl, (VL.le (vl rfl) (one_cellsP _))⟩, trivial⟩⟩⟩⟩⟩⟩⟩ rfl) ?_
                    refine TO.op rfl rfl (by decide) (ok_buildSlice (xs := [.tmp 144]) (rows := [_]) rfl rfl Tryz.underlying29 sz40 z40 rfl (by decide) ⟨⟨(by exact rfl), (VL.le (vl rfl) (agg_cellsP _))⟩, trivial⟩ (by decide)) ?_
                    refine TO.efs 0 rfl rfl (by decide) (ef_append rfl rfl (by decide) rfl Tryz.underlying29 sz40 by40 z40 rfl (by decide) ⟨_, rfl, andIs_le _ _⟩ ⟨_, rfl, full_le _ _⟩ (by simp only [List.length_map, List.length_append, List.length_cons, List.length_nil]; unfold maxLen; omega) (by simp only [List.length_map, List.length_append, List.length_cons, List.length_nil]; omega) (appR_is (by exact List.Mem.head _) ⟨_, rfl, andIs_is _ _⟩)) (fun v1 => ?_)
                    refine TO.op rfl rfl (by decide) (ok_assign rfl (vl rfl)) ?_
                    refine TO.nil ?_
                    refine Fin.block ?_
                    first
                      | rw [show ((some p1).bind fun p => factOf l n p.2) = _ from fact_no hg (by omega)] at hof
                      | rw [show ((some p1).bind fun p => factOf l n p.2) = _ from fact_yes hg (by omega)] at hof
                    exact Fin.famD1V1 (seen ++ [q1]) v1 (seen_next hnd hlt hn1 (lt_of_at hq1)) ⟨⟨_, rfl, own_le (by rw [hof, List.map_append]; first | rfl | exact (List.append_nil _).symm)⟩, ⟨_, rfl, Pr.le_refl _⟩, ⟨_, rfl, Pr.le_refl _⟩, ⟨_, rfl, Pr.le_refl _⟩, trivial⟩ (fun _ _ h => h)
                  ·
                    have q14 := Nrm.nrm h14
                    refine Tr.skip ?_
                    refine Fin.block ?_
                    first
                      | rw [show ((some p1).bind fun p => factOf l n p.2) = _ from fact_no hg (by omega)] at hof
                      | rw [show ((some p1).bind fun p => factOf l n p.2) = _ from fact_yes hg (by omega)] at hof
                    exact Fin.famD1V1 (seen ++ [q1]) v (seen_next hnd hlt hn1 (lt_of_at hq1)) ⟨⟨_, rfl, own_le (by rw [hof, List.map_append]; first | rfl | exact (List.append_nil _).symm)⟩, ⟨_, rfl, Pr.le_refl _⟩, ⟨_, rfl, Pr.le_refl _⟩, ⟨_, rfl, Pr.le_refl _⟩, trivial⟩ (fun _ _ h => h)
theorem e_Facts1 : Entry Tryz.prog 12 := ⟨_, Tryz.func12, rfl, rfl⟩
end Go.Proofs.YthmnoekgicggnaaGreat
