/-
  AssetDecides: whatever the input, the law of this name returns true and its arguments read as before. No conditions.
-/
import Derived.Test.YthmnoekgicggnaaGreatRows
import Derived.Test.YthmnoekgicggnaaGreatDecWP6
set_option linter.all false
namespace Go.Proofs.YthmnoekgicggnaaGreat
open Go Go.RowKit Cp

def cmpFc (a b : Fct) : Int := orL [Lib.compareBytes a.subj b.subj, cmpI a.kind b.kind, cmpI a.alg b.alg, cmpI a.bits b.bits, cmpI a.num b.num, Lib.compareBytes a.text b.text]
theorem cmpFc_cmp : Cmp cmpFc := by
  have := (cmp_bytes.on Fct.subj).cons ((cmp_int.on Fct.kind).cons ((cmp_int.on Fct.alg).cons ((cmp_int.on Fct.bits).cons ((cmp_int.on Fct.num).cons ((cmp_bytes.on Fct.text).cons (Cmp.nil (α := Fct)))))))
  exact this
theorem dec_len (l : List Fnd) (own : List Int) (t o : Int) : (decM l own t o).length ≤ own.length := by
  have key : ∀ (own : List Int) (m : List (Plc × Int)), (own.foldl (stepM l t o) m).length ≤ m.length + own.length := by
    intro own
    induction own with
    | nil => intro m; simp
    | cons i own ih =>
      intro m
      have h1 := ih (stepM l t o m i)
      have h2 : (stepM l t o m i).length ≤ m.length + 1 := by
        have hu : ∀ k, (updM m k i).length ≤ m.length + 1 := fun k => by
          unfold updM; split <;> simp
        unfold stepM
        split
        · omega
        · split
          · omega
          · split
            · exact hu _
            · split
              · omega
              · split
                · exact hu _
                · omega
      simp only [List.foldl_cons, List.length_cons]; omega
  have := key own []
  show (own.foldl (stepM l t o) []).length ≤ _
  simpa using this
theorem seen_perm {m : Nat} {seen : List Nat} (hn : seen.Nodup) (hlt : ∀ q ∈ seen, q < m) (hall : ∀ q, q < m → q ∈ seen) : seen.Perm (List.range m) := by
  rw [List.perm_ext_iff_of_nodup hn List.nodup_range]
  intro q; rw [List.mem_range]; exact ⟨hlt q, hall q⟩
theorem range_bind {α β : Type} (m : List α) (g : α → Option β) : ((List.range m.length).filterMap fun q => (m[q]?).bind g) = m.filterMap g := by
  have key : ∀ k, k ≤ m.length → ((List.range k).filterMap fun q => (m[q]?).bind g) = (m.take k).filterMap g := by
    intro k
    induction k with
    | zero => intro _; rfl
    | succ k ih =>
      intro hk
      obtain ⟨x, hx⟩ := at_ (l := m) (k := k) (by omega)
      rw [List.range_succ, List.filterMap_append, fm_take g hx, ih (by omega), fm_one, hx]; rfl
  rw [key m.length (Nat.le_refl _), List.take_length]
theorem outF_perm {l : List Fnd} {n : Int} {m : List (Plc × Int)} {seen : List Nat} (hn : seen.Nodup) (hlt : ∀ q ∈ seen, q < m.length) (hall : ∀ q, q < m.length → q ∈ seen) : (outF l n m seen).Perm (m.filterMap fun p => factOf l n p.2) := by
  rw [← range_bind]
  exact (seen_perm hn hlt hall).filterMap _

set_option maxRecDepth 20000 in
theorem w_aCompare {a b : Fct}  : Fun Tryz.prog 39 [agg (rowFc a), agg (rowFc b)] (int (cmpFc a b)) := by
 refine Fun.of Tryz.func39 rfl rfl (by exact Nat.le_of_ble_eq_true rfl) fun M0 w0 => ?_
 refine Tr.seq ?_
 refine Tr.reg0 ?_
 refine Ch.op rfl rfl (by decide) (ok_box rfl (VL.le (vl rfl) (agg_cellsP _))) ?_
 refine Ch.op rfl rfl (by decide) (ok_box rfl (VL.le (vl rfl) (agg_cellsP _))) ?_
 refine Ch.op rfl rfl (by decide) (ok_assign rfl (vl rfl)) ?_
 refine Ch.nil ?_
 refine Fin.go ?_
 refine Tr.seq ?_
 refine Tr.reg1 mixed (by kernel_rfl) ?_
 refine Ch.op rfl rfl (by decide) (ok_fieldAddr rfl fo40_1 (vl rfl) rfl) ?_
 refine Ch.op rfl rfl (by decide) (ok_load1 rfl one9 (vl rfl)) ?_
 refine Ch.op rfl rfl (by decide) (ok_fieldAddr rfl fo40_1 (vl rfl) rfl) ?_
 refine Ch.op rfl rfl (by decide) (ok_load1 rfl one9 (vl rfl)) ?_
 refine Ch.op rfl rfl (by decide) (ok_call rfl (w_cmpS) ⟨⟨_, rfl, Pr.le_refl _⟩, ⟨_, rfl, Pr.le_refl _⟩, trivial⟩) ?_
 refine Ch.op rfl rfl (by decide) (ok_fieldAddr rfl fo40_2 (vl rfl) rfl) ?_
 refine Ch.op rfl rfl (by decide) (ok_load1 rfl one3 (vl rfl)) ?_
 refine Ch.op rfl rfl (by decide) (ok_fieldAddr rfl fo40_2 (vl rfl) rfl) ?_
 refine Ch.op rfl rfl (by decide) (ok_load1 rfl one3 (vl rfl)) ?_
 refine Ch.op rfl rfl (by decide) (ok_call rfl (w_cmpI) ⟨⟨_, rfl, Pr.le_refl _⟩, ⟨_, rfl, Pr.le_refl _⟩, trivial⟩) ?_
 refine Ch.op rfl rfl (by decide) (ok_fieldAddr rfl fo40_3 (vl rfl) rfl) ?_
 refine Ch.op rfl rfl (by decide) (ok_fieldAddr rfl fo38_0 (vl rfl) rfl) ?_
 refine Ch.op rfl rfl (by decide) (ok_load1 rfl one3 (vl rfl)) ?_
 refine Ch.op rfl rfl (by decide) (ok_fieldAddr rfl fo40_3 (vl rfl) rfl) ?_
 refine Ch.op rfl rfl (by decide) (ok_fieldAddr rfl fo38_0 (vl rfl) rfl) ?_
 refine Ch.op rfl rfl (by decide) (ok_load1 rfl one3 (vl rfl)) ?_
 refine Ch.op rfl rfl (by decide) (ok_call rfl (w_cmpI) ⟨⟨_, rfl, Pr.le_refl _⟩, ⟨_, rfl, Pr.le_refl _⟩, trivial⟩) ?_
 refine Ch.op rfl rfl (by decide) (ok_fieldAddr rfl fo40_3 (vl rfl) rfl) ?_
 refine Ch.op rfl rfl (by decide) (ok_fieldAddr rfl fo38_1 (vl rfl) rfl) ?_
 refine Ch.op rfl rfl (by decide) (ok_load1 rfl one3 (vl rfl)) ?_
 refine Ch.op rfl rfl (by decide) (ok_fieldAddr rfl fo40_3 (vl rfl) rfl) ?_
 refine Ch.op rfl rfl (by decide) (ok_fieldAddr rfl fo38_1 (vl rfl) rfl) ?_
 refine Ch.op rfl rfl (by decide) (ok_load1 rfl one3 (vl rfl)) ?_
 refine Ch.op rfl rfl (by decide) (ok_call rfl (w_cmpI) ⟨⟨_, rfl, Pr.le_refl _⟩, ⟨_, rfl, Pr.le_refl _⟩, trivial⟩) ?_
 refine Ch.op rfl rfl (by decide) (ok_fieldAddr rfl fo40_4 (vl rfl) rfl) ?_
 refine Ch.op rfl rfl (by decide) (ok_load1 rfl one3 (vl rfl)) ?_
 refine Ch.op rfl rfl (by decide) (ok_fieldAddr rfl fo40_4 (vl rfl) rfl) ?_
 refine Ch.op rfl rfl (by decide) (ok_load1 rfl one3 (vl rfl)) ?_
 refine Ch.op rfl rfl (by decide) (ok_call rfl (w_cmpI) ⟨⟨_, rfl, Pr.le_refl _⟩, ⟨_, rfl, Pr.le_refl _⟩, trivial⟩) ?_
 refine Ch.op rfl rfl (by decide) (ok_fieldAddr rfl fo40_5 (vl rfl) rfl) ?_
 refine Ch.op rfl rfl (by decide) (ok_load1 rfl one9 (vl rfl)) ?_
 refine Ch.op rfl rfl (by decide) (ok_fieldAddr rfl fo40_5 (vl rfl) rfl) ?_
 refine Ch.op rfl rfl (by decide) (ok_load1 rfl one9 (vl rfl)) ?_
 refine Ch.op rfl rfl (by decide) (ok_call rfl (w_cmpS) ⟨⟨_, rfl, Pr.le_refl _⟩, ⟨_, rfl, Pr.le_refl _⟩, trivial⟩) ?_
 refine Ch.op rfl rfl (by decide) (ok_buildSlice (xs := [.tmp 9, .tmp 14, .tmp 21, .tmp 28, .tmp 33, .tmp 38]) (rows := [[_], [_], [_], [_], [_], [_]]) rfl rfl Tryz.underlying22 sz3 z3 rfl (by decide) ⟨⟨(by exact rfl), (VL.le (vl rfl) (one_cellsP _))⟩, ⟨⟨(by exact rfl), (VL.le (vl rfl) (one_cellsP _))⟩, ⟨⟨(by exact rfl), (VL.le (vl rfl) (one_cellsP _))⟩, ⟨⟨(by exact rfl), (VL.le (vl rfl) (one_cellsP _))⟩, ⟨⟨(by exact rfl), (VL.le (vl rfl) (one_cellsP _))⟩, ⟨⟨(by exact rfl), (VL.le (vl rfl) (one_cellsP _))⟩, trivial⟩⟩⟩⟩⟩⟩ (by decide)) ?_
 refine Ch.op rfl rfl (by decide) (ok_call rfl (w_orI (l := [Lib.compareBytes a.subj b.subj, cmpI a.kind b.kind, cmpI a.alg b.alg, cmpI a.bits b.bits, cmpI a.num b.num, Lib.compareBytes a.text b.text])) ⟨⟨_, rfl, full_le _ _⟩, trivial⟩) ?_
 refine Ch.op rfl rfl (by decide) (ok_assign rfl (vl rfl)) ?_
 refine Ch.nil ?_
 refine Fin.go ?_
 refine Tr.weak [(4, _)] ⟨⟨_, rfl, Pr.le_refl _⟩, trivial⟩ ?_
 refine Tr.ret ?_
 refine Fin.ret1 rfl (OutW.bse _ _) rfl ?_
 · exact int_eq (orL_orF _)
theorem e_aCompare : Entry Tryz.prog 39 := ⟨_, Tryz.func39, rfl, rfl⟩
set_option maxRecDepth 20000 in
theorem w_FactsN {l : List Fnd} {n t o : Int} {own : List Int} (hN : NormP l) (hf : ∀ f ∈ l, f.fits) (ht : 0 ≤ t ∧ t ≤ 40000) (ho : 0 ≤ o ∧ o ≤ 4000) (ha : Asc own) (hi : InR own l.length) (hs : own.length < 50) : Fun Tryz.prog 12 [fnds l, entP n own, int t, int o] (ex fun st : List Fct => fact (st.Perm ((decM l own t o).filterMap fun p => factOf l n p.2) ∧ SortedC cmpFc st) (tup [fcts st, int 0])) := by
 refine Fun.of Tryz.func12 rfl rfl (by exact Nat.le_of_ble_eq_true rfl) fun M0 w0 => ?_
 have hml : (decM l own t o).length < 50 := Nat.lt_of_le_of_lt (dec_len ..) hs
 haveI := Classical.propDecidable (NormP l)
 obtain ⟨ht1, ht2⟩ := ht
 obtain ⟨ho1, ho2⟩ := ho
 have hNl := hN.len
 refine Tr.seq ?_
 refine Tr.reg0 ?_
 refine Ch.op rfl rfl (by decide) (ok_box rfl (VL.le (vl rfl) (agg_cellsP _))) ?_
 refine Ch.op rfl rfl (by decide) (ok_assign rfl (vl rfl)) ?_
 refine Ch.op rfl rfl (by decide) (ok_assign rfl (vl rfl)) ?_
 refine Ch.nil ?_
 refine Fin.go ?_
 refine Tr.seq ?_
 refine Tr.reg0 ?_
 refine Ch.op rfl rfl (by decide) (ok_move rfl (vl rfl)) ?_
 refine Ch.op rfl rfl (by decide) (ok_loadA rfl agg35 sz35 (vl rfl) rfl rfl) ?_
 refine Ch.op rfl rfl (by decide) (ok_call rfl (w_indices48 (by assumption) (by assumption)) ⟨⟨_, rfl, Pr.le_refl _⟩, ⟨_, rfl, Pr.le_refl _⟩, trivial⟩) ?_
 refine Ch.op rfl rfl (by decide) (ok_move rfl (vl rfl)) ?_
 refine Ch.op rfl rfl (by decide) (ok_extract rfl (vl rfl) rfl) ?_
 refine Ch.op rfl rfl (by decide) (ok_extract rfl (vl rfl) rfl) ?_
 refine Ch.op rfl rfl (by decide) (ok_assign rfl (vl rfl)) ?_
 refine Ch.op rfl rfl (by decide) (ok_assign rfl (vl rfl)) ?_
 refine Ch.nil ?_
 refine Fin.go ?_
 refine Tr.seq ?_
 refine Tr.block ?_
 refine Tr.seq ?_
 refine Tr.reg0 ?_
 refine Ch.op rfl rfl (by decide) (ok_move rfl (vl rfl)) ?_
 refine Ch.op rfl rfl (by decide) (ok_call rfl (w_FNormal (by assumption)) ⟨⟨_, rfl, Pr.le_refl _⟩, trivial⟩) ?_
 refine Ch.op rfl rfl (by decide) (ok_not rfl (vl rfl)) ?_
 refine Ch.op rfl rfl (by decide) (ok_assign rfl (vl rfl)) ?_
 refine Ch.nil ?_
 refine Fin.go ?_
 refine Tr.weak [(0, _), (2, _), (3, _), (5, _), (10, _), (11, _), (28, _)] ⟨⟨_, rfl, Pr.le_refl _⟩, ⟨_, rfl, Pr.le_refl _⟩, ⟨_, rfl, Pr.le_refl _⟩, ⟨_, rfl, Pr.le_refl _⟩, ⟨_, rfl, Pr.le_refl _⟩, ⟨_, rfl, Pr.le_refl _⟩, ⟨_, rfl, Pr.le_refl _⟩, trivial⟩ ?_
 refine Tr.cond rfl (fun h1 => ?_) (fun h1 => ?_)
 ·
  have q1 := Nrm.nrm h1
  exfalso; simp_all
 ·
  have q1 := Nrm.nrm h1
  refine Tr.seq ?_
  refine Tr.reg0 ?_
  refine Ch.op rfl rfl (by decide) (ok_move rfl (vl rfl)) ?_
  refine Ch.op rfl rfl (by decide) (ok_int rfl (vl rfl) (vl rfl) rfl) ?_
  refine Ch.op rfl rfl (by decide) (ok_move rfl (vl rfl)) ?_
  refine Ch.cases 35 rfl (fun h2 => ?_) (fun h2 => ?_)
  ·
   have q2 := Nrm.nrm h2
   exfalso; omega
  ·
   have q2 := Nrm.nrm h2
   refine Ch.yes rfl rfl rfl h2 rfl (by decide) (ok_move rfl (vl rfl)) ?_
   refine Ch.yes rfl rfl rfl h2 rfl (by decide) (ok_int rfl (vl rfl) (vl rfl) rfl) ?_
   refine Ch.op rfl rfl (by decide) (ok_pick_f rfl (vl rfl) h2 (vl rfl)) ?_
   refine Ch.op rfl rfl (by decide) (ok_move rfl (vl rfl)) ?_
   refine Ch.cases 39 rfl (fun h3 => ?_) (fun h3 => ?_)
   ·
    have q3 := Nrm.nrm h3
    exfalso; omega
   ·
    have q3 := Nrm.nrm h3
    refine Ch.yes rfl rfl rfl h3 rfl (by decide) (ok_move rfl (vl rfl)) ?_
    refine Ch.yes rfl rfl rfl h3 rfl (by decide) (ok_int rfl (vl rfl) (vl rfl) rfl) ?_
    refine Ch.op rfl rfl (by decide) (ok_pick_f rfl (vl rfl) h3 (vl rfl)) ?_
    refine Ch.op rfl rfl (by decide) (ok_move rfl (vl rfl)) ?_
    refine Ch.cases 43 rfl (fun h4 => ?_) (fun h4 => ?_)
    ·
     have q4 := Nrm.nrm h4
     exfalso; omega
    ·
     have q4 := Nrm.nrm h4
     refine Ch.yes rfl rfl rfl h4 rfl (by decide) (ok_move rfl (vl rfl)) ?_
     refine Ch.yes rfl rfl rfl h4 rfl (by decide) (ok_int rfl (vl rfl) (vl rfl) rfl) ?_
     refine Ch.op rfl rfl (by decide) (ok_pick_f rfl (vl rfl) h4 (vl rfl)) ?_
     refine Ch.op rfl rfl (by decide) (ok_assign rfl (vl rfl)) ?_
     refine Ch.nil ?_
     refine Fin.go ?_
     refine Tr.weak [(0, _), (2, _), (3, _), (5, _), (10, _), (11, _), (32, _)] ⟨⟨_, rfl, Pr.le_refl _⟩, ⟨_, rfl, Pr.le_refl _⟩, ⟨_, rfl, Pr.le_refl _⟩, ⟨_, rfl, Pr.le_refl _⟩, ⟨_, rfl, Pr.le_refl _⟩, ⟨_, rfl, Pr.le_refl _⟩, ⟨_, rfl, Pr.le_refl _⟩, trivial⟩ ?_
     refine Tr.cond rfl (fun h5 => ?_) (fun h5 => ?_)
     ·
      have q5 := Nrm.nrm h5
      exfalso; omega
     ·
      have q5 := Nrm.nrm h5
      refine Tr.seq ?_
      refine Tr.reg0 ?_
      refine Ch.op rfl rfl (by decide) (ok_move rfl (vl rfl)) ?_
      refine Ch.op rfl rfl (by decide) (ok_not rfl (vl rfl)) ?_
      refine Ch.op rfl rfl (by decide) (ok_assign rfl (vl rfl)) ?_
      refine Ch.nil ?_
      refine Fin.go ?_
      refine Tr.cond rfl (fun h6 => ?_) (fun h6 => ?_)
      ·
       have q6 := Nrm.nrm h6
       exfalso; simp_all
      ·
       have q6 := Nrm.nrm h6
       refine Tr.skip ?_
       refine Fin.block ?_
       refine Fin.go ?_
       refine Tr.seq ?_
       refine Tr.regT ?_
       refine TO.mkmap encPl rfl rfl (by decide) rfl (fun b1 => ?_)
       refine TO.op rfl rfl (by decide) (ok_assign rfl (vl rfl)) ?_
       refine TO.nil ?_
       refine Fin.go ?_
       refine Tr.seq ?_
       refine Tr.seq ?_
       refine Tr.reg0 ?_
       refine Ch.op rfl rfl (by decide) (ok_move rfl (vl rfl)) ?_
       first
        | refine Ch.op rfl rfl (by decide) (ok_lenm rfl Tryz.underlying22 (vl rfl)) ?_
        | refine Ch.op rfl rfl (by decide) (ok_len rfl Tryz.underlying22 (vl rfl)) ?_
       refine Ch.op rfl rfl (by decide) (ok_move rfl (vl rfl)) ?_
       refine Ch.nil ?_
       refine Fin.go ?_
       refine Tr.weak [(0, _), (2, _), (3, _), (5, _), (12, _), (51, _), (52, _), (53, _)] ⟨⟨_, rfl, Pr.le_refl _⟩, ⟨_, rfl, Pr.le_refl _⟩, ⟨_, rfl, Pr.le_refl _⟩, ⟨_, rfl, Pr.le_refl _⟩, ⟨_, rfl, Pr.le_refl _⟩, ⟨_, rfl, Pr.le_refl _⟩, ⟨_, rfl, Pr.le_refl _⟩, ⟨_, rfl, Pr.le_refl _⟩, trivial⟩ ?_
       refine Tr.block ?_
       refine Tr.loopR [(0, _), (2, _), (3, _), (5, _), (12, _), (51, _), (52, _)] ⟨⟨_, rfl, Pr.le_refl _⟩, ⟨_, rfl, Pr.le_refl _⟩, ⟨_, rfl, Pr.le_refl _⟩, ⟨_, rfl, Pr.le_refl _⟩, ⟨_, rfl, Pr.le_refl _⟩, ⟨_, rfl, Pr.le_refl _⟩, ⟨_, rfl, Pr.le_refl _⟩, trivial⟩ (fun k : Nat => [(53, int ((k : Nat) : Int))]) (fun k : Nat => Hp M0 w0 noS ([mapR encPl b1 (decM l (own.take k) t o)])) (fun k : Nat => k ≤ (own).length) (fun k : Nat => (own).length - k) 0 (Nat.zero_le _) ⟨⟨_, rfl, Pr.le_refl _⟩, trivial⟩ (fun _ _ h => h) ?_
       rintro k hle_k
       refine Tr.seq ?_
       refine Tr.reg0 ?_
       refine Ch.op rfl rfl (by decide) (ok_int rfl (vl rfl) (vl rfl) rfl) ?_
       refine Ch.nil ?_
       refine Fin.go ?_
       refine Tr.seq ?_
       refine Tr.cond rfl (fun h7 => ?_) (fun h7 => ?_)
       ·
        have q7 := Nrm.nrm h7
        have hk_k : k < (own).length := lt_of_dec h7
        obtain ⟨i, hx_k⟩ := at_ hk_k
        have hii := hi i (List.mem_of_getElem? hx_k)
        obtain ⟨f, hf0⟩ := at_ (l := l) (k := i.toNat) (by omega)
        have hstep := dec_take (l := l) (t := t) (o := o) hx_k
        refine Tr.skip ?_
        refine Fin.go ?_
        refine Tr.seq ?_
        refine Tr.block ?_
        refine Tr.seq ?_
        refine Tr.reg0 ?_
        refine Ch.op rfl rfl (by decide) (ok_indexAddr rfl Tryz.underlying22 sz3 (vl rfl) (vl rfl) (by omega) (row_at hx_k)) ?_
        refine Ch.op rfl rfl (by decide) (ok_load1 rfl one3 (vl rfl)) ?_
        refine Ch.op rfl rfl (by decide) (ok_assign rfl (vl rfl)) ?_
        refine Ch.nil ?_
        refine Fin.go ?_
        refine Tr.seq ?_
        refine Tr.regT ?_
        refine TO.op rfl rfl (by decide) (ok_move rfl (vl rfl)) ?_
        refine TO.op rfl rfl (by decide) (ok_move rfl (vl rfl)) ?_
        refine TO.op rfl rfl (by decide) (ok_indexAddr rfl Tryz.underlying27 sz42 (vl rfl) (vl rfl) (by omega) (row_atI hf0)) ?_
        refine TO.op rfl rfl (by decide) (ok_loadA rfl agg42 sz42 (vl rfl) rfl rfl) ?_
        refine TO.alloc rfl rfl (by decide) rfl z42 zo42 (fun b2 => ?_)
        refine TO.store_all 0 rfl rfl rfl (vl rfl) (VL.le (vl rfl) (agg_cellsP _)) rfl sz42 rfl rfl ?_
        refine TO.freeze 0 15 rfl rfl ?_
        refine TO.nil ?_
        refine Fin.go ?_
        refine Tr.weak [(0, _), (2, _), (3, _), (5, _), (12, _), (14, _), (15, _), (51, _), (52, _), (53, _)] ⟨⟨_, rfl, Pr.le_refl _⟩, ⟨_, rfl, Pr.le_refl _⟩, ⟨_, rfl, Pr.le_refl _⟩, ⟨_, rfl, Pr.le_refl _⟩, ⟨_, rfl, Pr.le_refl _⟩, ⟨_, rfl, Pr.le_refl _⟩, ⟨_, rfl, Pr.le_refl _⟩, ⟨_, rfl, Pr.le_refl _⟩, ⟨_, rfl, Pr.le_refl _⟩, ⟨_, rfl, Pr.le_refl _⟩, trivial⟩ ?_
        refine Tr.seq ?_
        refine Tr.seq ?_
        refine Tr.reg0 ?_
        refine Ch.op rfl rfl (by decide) (ok_fieldAddr rfl fo42_3 (vl rfl) rfl) ?_
        refine Ch.op rfl rfl (by decide) (ok_load1 rfl one3 (vl rfl)) ?_
        refine Ch.op rfl rfl (by decide) (ok_move rfl (vl rfl)) ?_
        refine Ch.op rfl rfl (by decide) (ok_int rfl (vl rfl) (vl rfl) rfl) ?_
        refine Ch.op rfl rfl (by decide) (ok_move rfl (vl rfl)) ?_
        refine Ch.cases 65 rfl (fun h8 => ?_) (fun h8 => ?_)
        ·
         have q8 := Nrm.nrm h8
         refine Ch.no rfl rfl rfl (ne_false h8) rfl (by decide) ?_
         refine Ch.no rfl rfl rfl (ne_false h8) rfl (by decide) ?_
         refine Ch.no rfl rfl rfl (ne_false h8) rfl (by decide) ?_
         refine Ch.no rfl rfl rfl (ne_false h8) rfl (by decide) ?_
         refine Ch.no rfl rfl rfl (ne_false h8) rfl (by decide) ?_
         refine Ch.no rfl rfl rfl (ne_false h8) rfl (by decide) ?_
         refine Ch.op rfl rfl (by decide) (ok_pick_t rfl (vl rfl) h8 (vl rfl)) ?_
         refine Ch.nil ?_
         refine Fin.go ?_
         refine Tr.weak [(0, _), (2, _), (3, _), (5, _), (12, _), (14, _), (15, _), (51, _), (52, _), (53, _), (72, _)] ⟨⟨_, rfl, Pr.le_refl _⟩, ⟨_, rfl, Pr.le_refl _⟩, ⟨_, rfl, Pr.le_refl _⟩, ⟨_, rfl, Pr.le_refl _⟩, ⟨_, rfl, Pr.le_refl _⟩, ⟨_, rfl, Pr.le_refl _⟩, ⟨_, rfl, Pr.le_refl _⟩, ⟨_, rfl, Pr.le_refl _⟩, ⟨_, rfl, Pr.le_refl _⟩, ⟨_, rfl, Pr.le_refl _⟩, ⟨_, rfl, Pr.le_refl _⟩, trivial⟩ ?_
         refine Tr.cond rfl (fun _ => ?_) (fun h => nomatch h)
         refine Tr.exit ?_
         refine Fin.then_exit ?_
         refine Fin.block_here ?_
         refine Fin.go ?_
         refine Tr.reg0 ?_
         first
          | (refine Ch.op rfl rfl (by decide) (ok_add rfl (vl rfl) (vl rfl) ?hin) ?_; case hin => unfold InI; omega)
          | refine Ch.op rfl rfl (by decide) (ok_int rfl (vl rfl) (vl rfl) rfl) ?_
         refine Ch.op rfl rfl (by decide) (ok_move rfl (vl rfl)) ?_
         refine Ch.nil ?_
         first
          | rw [step_out hf0 (by omega)] at hstep
          | rw [step_new hf0 (by omega) hsome0] at hstep
          | rw [step_old hf0 (by omega) hsome hg, if_pos (by unfold better; omega)] at hstep
          | rw [step_old hf0 (by omega) hsome hg, if_neg (by unfold better; omega)] at hstep
         exact Fin.fam (k + 1) ⟨hk_k, by omega⟩ ⟨⟨_, rfl, int_succ k⟩, ⟨_, rfl, Pr.le_refl _⟩, ⟨_, rfl, Pr.le_refl _⟩, ⟨_, rfl, Pr.le_refl _⟩, ⟨_, rfl, Pr.le_refl _⟩, ⟨_, rfl, Pr.le_refl _⟩, ⟨_, rfl, Pr.le_refl _⟩, ⟨_, rfl, Pr.le_refl _⟩, trivial⟩ (fun _ _ h => by rw [hstep]; exact h)
        ·
         have q8 := Nrm.nrm h8
         refine Ch.yes rfl rfl rfl h8 rfl (by decide) (ok_fieldAddr rfl fo42_3 (vl rfl) rfl) ?_
         refine Ch.yes rfl rfl rfl h8 rfl (by decide) (ok_load1 rfl one3 (vl rfl)) ?_
         refine Ch.yes rfl rfl rfl h8 rfl (by decide) (ok_move rfl (vl rfl)) ?_
         refine Ch.yes rfl rfl rfl h8 rfl (by decide) (ok_move rfl (vl rfl)) ?_
         first
          | (refine Ch.yes rfl rfl rfl h8 rfl (by decide) (ok_sub rfl (vl rfl) (vl rfl) ?hin) ?_; case hin => unfold InI; omega)
          | refine Ch.yes rfl rfl rfl h8 rfl (by decide) (ok_int rfl (vl rfl) (vl rfl) rfl) ?_
         refine Ch.yes rfl rfl rfl h8 rfl (by decide) (ok_int rfl (vl rfl) (vl rfl) rfl) ?_
         refine Ch.op rfl rfl (by decide) (ok_pick_f rfl (vl rfl) h8 (vl rfl)) ?_
         refine Ch.nil ?_
         refine Fin.go ?_
         refine Tr.weak [(0, _), (2, _), (3, _), (5, _), (12, _), (14, _), (15, _), (51, _), (52, _), (53, _), (72, _)] ⟨⟨_, rfl, Pr.le_refl _⟩, ⟨_, rfl, Pr.le_refl _⟩, ⟨_, rfl, Pr.le_refl _⟩, ⟨_, rfl, Pr.le_refl _⟩, ⟨_, rfl, Pr.le_refl _⟩, ⟨_, rfl, Pr.le_refl _⟩, ⟨_, rfl, Pr.le_refl _⟩, ⟨_, rfl, Pr.le_refl _⟩, ⟨_, rfl, Pr.le_refl _⟩, ⟨_, rfl, Pr.le_refl _⟩, ⟨_, rfl, Pr.le_refl _⟩, trivial⟩ ?_
         refine Tr.cond rfl (fun h9 => ?_) (fun h9 => ?_)
         ·
          have q9 := Nrm.nrm h9
          refine Tr.exit ?_
          refine Fin.then_exit ?_
          refine Fin.block_here ?_
          refine Fin.go ?_
          refine Tr.reg0 ?_
          first
           | (refine Ch.op rfl rfl (by decide) (ok_add rfl (vl rfl) (vl rfl) ?hin) ?_; case hin => unfold InI; omega)
           | refine Ch.op rfl rfl (by decide) (ok_int rfl (vl rfl) (vl rfl) rfl) ?_
          refine Ch.op rfl rfl (by decide) (ok_move rfl (vl rfl)) ?_
          refine Ch.nil ?_
          first
           | rw [step_out hf0 (by omega)] at hstep
           | rw [step_new hf0 (by omega) hsome0] at hstep
           | rw [step_old hf0 (by omega) hsome hg, if_pos (by unfold better; omega)] at hstep
           | rw [step_old hf0 (by omega) hsome hg, if_neg (by unfold better; omega)] at hstep
          exact Fin.fam (k + 1) ⟨hk_k, by omega⟩ ⟨⟨_, rfl, int_succ k⟩, ⟨_, rfl, Pr.le_refl _⟩, ⟨_, rfl, Pr.le_refl _⟩, ⟨_, rfl, Pr.le_refl _⟩, ⟨_, rfl, Pr.le_refl _⟩, ⟨_, rfl, Pr.le_refl _⟩, ⟨_, rfl, Pr.le_refl _⟩, ⟨_, rfl, Pr.le_refl _⟩, trivial⟩ (fun _ _ h => by rw [hstep]; exact h)
         ·
          have q9 := Nrm.nrm h9
          refine Tr.skip ?_
          refine Fin.go ?_
          refine Tr.seq ?_
          refine Tr.regT ?_
          refine TO.op rfl rfl (by decide) (ok_move rfl (vl rfl)) ?_
          refine TO.op rfl rfl (by decide) (ok_loadA rfl agg42 sz42 (vl rfl) rfl rfl) ?_
          refine TO.op rfl rfl (by decide) (ok_call rfl (w_placeOf) ⟨⟨_, rfl, Pr.le_refl _⟩, trivial⟩) ?_
          refine TO.rd 0 rfl rfl rfl (by decide) (rd_lookup (plcOf f) mapT_place rfl (vl rfl) (vl rfl) (fun _ _ _ h => agg_is h)) ?_
          refine TO.op rfl rfl (by decide) (ok_move rfl (vl rfl)) ?_
          refine TO.op rfl rfl (by decide) (ok_extract rfl (vl rfl) rfl) ?_
          refine TO.op rfl rfl (by decide) (ok_extract rfl (vl rfl) rfl) ?_
          refine TO.op rfl rfl (by decide) (ok_assign rfl (vl rfl)) ?_
          refine TO.op rfl rfl (by decide) (ok_assign rfl (vl rfl)) ?_
          refine TO.nil ?_
          refine Fin.go ?_
          refine Tr.weak [(0, _), (2, _), (3, _), (5, _), (12, _), (14, _), (15, _), (16, _), (17, _), (51, _), (52, _), (53, _)] ⟨⟨_, rfl, Pr.le_refl _⟩, ⟨_, rfl, Pr.le_refl _⟩, ⟨_, rfl, Pr.le_refl _⟩, ⟨_, rfl, Pr.le_refl _⟩, ⟨_, rfl, Pr.le_refl _⟩, ⟨_, rfl, Pr.le_refl _⟩, ⟨_, rfl, Pr.le_refl _⟩, ⟨_, rfl, Pr.le_refl _⟩, ⟨_, rfl, Pr.le_refl _⟩, ⟨_, rfl, Pr.le_refl _⟩, ⟨_, rfl, Pr.le_refl _⟩, ⟨_, rfl, Pr.le_refl _⟩, trivial⟩ ?_
          refine Tr.seq ?_
          refine Tr.reg1 mixed (by kernel_rfl) ?_
          refine Ch.op rfl rfl (by decide) (ok_move rfl (vl rfl)) ?_
          refine Ch.op rfl rfl (by decide) (ok_not rfl (vl rfl)) ?_
          refine Ch.op rfl rfl (by decide) (ok_move rfl (vl rfl)) ?_
          refine Ch.cases 82 rfl (fun h10 => ?_) (fun h10 => ?_)
          ·
           have q10 := Nrm.nrm h10
           have hsome0 : (Cp.look (decM l (own.take k) t o) (plcOf f)).isSome = false := by simpa using h10
           refine Ch.no rfl rfl rfl (ne_false h10) rfl (by decide) ?_
           refine Ch.no rfl rfl rfl (ne_false h10) rfl (by decide) ?_
           refine Ch.no rfl rfl rfl (ne_false h10) rfl (by decide) ?_
           refine Ch.no rfl rfl rfl (ne_false h10) rfl (by decide) ?_
           refine Ch.no rfl rfl rfl (ne_false h10) rfl (by decide) ?_
           refine Ch.no rfl rfl rfl (ne_false h10) rfl (by decide) ?_
           refine Ch.no rfl rfl rfl (ne_false h10) rfl (by decide) ?_
           refine Ch.no rfl rfl rfl (ne_false h10) rfl (by decide) ?_
           refine Ch.op rfl rfl (by decide) (ok_pick_t rfl (vl rfl) h10 (vl rfl)) ?_
           refine Ch.op rfl rfl (by decide) (ok_move rfl (vl rfl)) ?_
           refine Ch.no rfl rfl rfl (by decide) rfl (by decide) ?_
           refine Ch.no rfl rfl rfl (by decide) rfl (by decide) ?_
           refine Ch.no rfl rfl rfl (by decide) rfl (by decide) ?_
           refine Ch.no rfl rfl rfl (by decide) rfl (by decide) ?_
           refine Ch.no rfl rfl rfl (by decide) rfl (by decide) ?_
           refine Ch.no rfl rfl rfl (by decide) rfl (by decide) ?_
           refine Ch.no rfl rfl rfl (by decide) rfl (by decide) ?_
           refine Ch.no rfl rfl rfl (by decide) rfl (by decide) ?_
           refine Ch.no rfl rfl rfl (by decide) rfl (by decide) ?_
           refine Ch.un rfl rfl rfl rfl (by decide) ?_
           refine Ch.un rfl rfl rfl rfl (by decide) ?_
           refine Ch.un rfl rfl rfl rfl (by decide) ?_
           refine Ch.un rfl rfl rfl rfl (by decide) ?_
           refine Ch.un rfl rfl rfl rfl (by decide) ?_
           refine Ch.un rfl rfl rfl rfl (by decide) ?_
           refine Ch.un rfl rfl rfl rfl (by decide) ?_
           refine Ch.un rfl rfl rfl rfl (by decide) ?_
           refine Ch.no rfl rfl rfl (by decide) rfl (by decide) ?_
           refine Ch.op rfl rfl (by decide) (ok_pick_t rfl (vl rfl) rfl (vl rfl)) ?_
           refine Ch.nil ?_
           refine Fin.go ?_
           refine Tr.weak [(0, _), (2, _), (3, _), (5, _), (12, _), (14, _), (15, _), (51, _), (52, _), (53, _), (111, _)] ⟨⟨_, rfl, Pr.le_refl _⟩, ⟨_, rfl, Pr.le_refl _⟩, ⟨_, rfl, Pr.le_refl _⟩, ⟨_, rfl, Pr.le_refl _⟩, ⟨_, rfl, Pr.le_refl _⟩, ⟨_, rfl, Pr.le_refl _⟩, ⟨_, rfl, Pr.le_refl _⟩, ⟨_, rfl, Pr.le_refl _⟩, ⟨_, rfl, Pr.le_refl _⟩, ⟨_, rfl, Pr.le_refl _⟩, ⟨_, rfl, Pr.le_refl _⟩, trivial⟩ ?_
           refine Tr.cond rfl (fun _ => ?_) (fun h => nomatch h)
           refine Tr.regT ?_
           refine TO.op rfl rfl (by decide) (ok_move rfl (vl rfl)) ?_
           refine TO.op rfl rfl (by decide) (ok_loadA rfl agg42 sz42 (vl rfl) rfl rfl) ?_
           refine TO.op rfl rfl (by decide) (ok_call rfl (w_placeOf) ⟨⟨_, rfl, Pr.le_refl _⟩, trivial⟩) ?_
           refine TO.op rfl rfl (by decide) (ok_move rfl (vl rfl)) ?_
           refine TO.ef0 0 rfl rfl (ef_mapupd (plcOf f) mapT_place rfl rfl rfl (vl rfl) (vl rfl) (fun _ _ _ h => agg_is h) (vl rfl)) ?_
           refine TO.nil ?_
           refine Fin.block ?_
           refine Fin.go ?_
           refine Tr.weak [(0, _), (2, _), (3, _), (5, _), (12, _), (51, _), (52, _), (53, _)] ⟨⟨_, rfl, Pr.le_refl _⟩, ⟨_, rfl, Pr.le_refl _⟩, ⟨_, rfl, Pr.le_refl _⟩, ⟨_, rfl, Pr.le_refl _⟩, ⟨_, rfl, Pr.le_refl _⟩, ⟨_, rfl, Pr.le_refl _⟩, ⟨_, rfl, Pr.le_refl _⟩, ⟨_, rfl, Pr.le_refl _⟩, trivial⟩ ?_
           refine Tr.reg0 ?_
           first
            | (refine Ch.op rfl rfl (by decide) (ok_add rfl (vl rfl) (vl rfl) ?hin) ?_; case hin => unfold InI; omega)
            | refine Ch.op rfl rfl (by decide) (ok_int rfl (vl rfl) (vl rfl) rfl) ?_
           refine Ch.op rfl rfl (by decide) (ok_move rfl (vl rfl)) ?_
           refine Ch.nil ?_
           first
            | rw [step_out hf0 (by omega)] at hstep
            | rw [step_new hf0 (by omega) hsome0] at hstep
            | rw [step_old hf0 (by omega) hsome hg, if_pos (by unfold better; omega)] at hstep
            | rw [step_old hf0 (by omega) hsome hg, if_neg (by unfold better; omega)] at hstep
           exact Fin.fam (k + 1) ⟨hk_k, by omega⟩ ⟨⟨_, rfl, int_succ k⟩, ⟨_, rfl, Pr.le_refl _⟩, ⟨_, rfl, Pr.le_refl _⟩, ⟨_, rfl, Pr.le_refl _⟩, ⟨_, rfl, Pr.le_refl _⟩, ⟨_, rfl, Pr.le_refl _⟩, ⟨_, rfl, Pr.le_refl _⟩, ⟨_, rfl, Pr.le_refl _⟩, trivial⟩ (fun _ _ h => by rw [hstep]; exact h)
          ·
           have q10 := Nrm.nrm h10
           have hsome : (Cp.look (decM l (own.take k) t o) (plcOf f)).isSome = true := by simpa using h10
           have hjj := look_in (dec_in' (t := t) (o := o) k hi) hsome
           obtain ⟨g, hg⟩ := at_ (l := l) (k := ((Cp.look (decM l (own.take k) t o) (plcOf f)).getD 0).toNat) (by omega)
           refine Ch.yes rfl rfl rfl h10 rfl (by decide) (ok_fieldAddr rfl fo42_3 (vl rfl) rfl) ?_
           refine Ch.yes rfl rfl rfl h10 rfl (by decide) (ok_load1 rfl one3 (vl rfl)) ?_
           refine Ch.yes rfl rfl rfl h10 rfl (by decide) (ok_move rfl (vl rfl)) ?_
           refine Ch.yes rfl rfl rfl h10 rfl (by decide) (ok_move rfl (vl rfl)) ?_
           refine Ch.yes rfl rfl rfl h10 rfl (by decide) (ok_indexAddr rfl Tryz.underlying27 sz42 (vl rfl) (vl rfl) (by omega) (row_atI hg)) ?_
           refine Ch.yes rfl rfl rfl h10 rfl (by decide) (ok_fieldAddr rfl fo42_3 (vl rfl) rfl) ?_
           refine Ch.yes rfl rfl rfl h10 rfl (by decide) (ok_load1 rfl one3 (vl rfl)) ?_
           refine Ch.yes rfl rfl rfl h10 rfl (by decide) (ok_int rfl (vl rfl) (vl rfl) rfl) ?_
           refine Ch.op rfl rfl (by decide) (ok_pick_f rfl (vl rfl) h10 (vl rfl)) ?_
           refine Ch.op rfl rfl (by decide) (ok_move rfl (vl rfl)) ?_
           refine Ch.cases 92 rfl (fun h11 => ?_) (fun h11 => ?_)
           ·
            have q11 := Nrm.nrm h11
            refine Ch.no rfl rfl rfl (ne_false h11) rfl (by decide) ?_
            refine Ch.no rfl rfl rfl (ne_false h11) rfl (by decide) ?_
            refine Ch.no rfl rfl rfl (ne_false h11) rfl (by decide) ?_
            refine Ch.no rfl rfl rfl (ne_false h11) rfl (by decide) ?_
            refine Ch.no rfl rfl rfl (ne_false h11) rfl (by decide) ?_
            refine Ch.no rfl rfl rfl (ne_false h11) rfl (by decide) ?_
            refine Ch.no rfl rfl rfl (ne_false h11) rfl (by decide) ?_
            refine Ch.no rfl rfl rfl (ne_false h11) rfl (by decide) ?_
            refine Ch.no rfl rfl rfl (ne_false h11) rfl (by decide) ?_
            refine Ch.un rfl rfl rfl rfl (by decide) ?_
            refine Ch.un rfl rfl rfl rfl (by decide) ?_
            refine Ch.un rfl rfl rfl rfl (by decide) ?_
            refine Ch.un rfl rfl rfl rfl (by decide) ?_
            refine Ch.un rfl rfl rfl rfl (by decide) ?_
            refine Ch.un rfl rfl rfl rfl (by decide) ?_
            refine Ch.un rfl rfl rfl rfl (by decide) ?_
            refine Ch.un rfl rfl rfl rfl (by decide) ?_
            refine Ch.no rfl rfl rfl (ne_false h11) rfl (by decide) ?_
            refine Ch.op rfl rfl (by decide) (ok_pick_t rfl (vl rfl) h11 (vl rfl)) ?_
            refine Ch.nil ?_
            refine Fin.go ?_
            refine Tr.weak [(0, _), (2, _), (3, _), (5, _), (12, _), (14, _), (15, _), (51, _), (52, _), (53, _), (111, _)] ⟨⟨_, rfl, Pr.le_refl _⟩, ⟨_, rfl, Pr.le_refl _⟩, ⟨_, rfl, Pr.le_refl _⟩, ⟨_, rfl, Pr.le_refl _⟩, ⟨_, rfl, Pr.le_refl _⟩, ⟨_, rfl, Pr.le_refl _⟩, ⟨_, rfl, Pr.le_refl _⟩, ⟨_, rfl, Pr.le_refl _⟩, ⟨_, rfl, Pr.le_refl _⟩, ⟨_, rfl, Pr.le_refl _⟩, ⟨_, rfl, Pr.le_refl _⟩, trivial⟩ ?_
            refine Tr.cond rfl (fun _ => ?_) (fun h => nomatch h)
            refine Tr.regT ?_
            refine TO.op rfl rfl (by decide) (ok_move rfl (vl rfl)) ?_
            refine TO.op rfl rfl (by decide) (ok_loadA rfl agg42 sz42 (vl rfl) rfl rfl) ?_
            refine TO.op rfl rfl (by decide) (ok_call rfl (w_placeOf) ⟨⟨_, rfl, Pr.le_refl _⟩, trivial⟩) ?_
            refine TO.op rfl rfl (by decide) (ok_move rfl (vl rfl)) ?_
            refine TO.ef0 0 rfl rfl (ef_mapupd (plcOf f) mapT_place rfl rfl rfl (vl rfl) (vl rfl) (fun _ _ _ h => agg_is h) (vl rfl)) ?_
            refine TO.nil ?_
            refine Fin.block ?_
            refine Fin.go ?_
            refine Tr.weak [(0, _), (2, _), (3, _), (5, _), (12, _), (51, _), (52, _), (53, _)] ⟨⟨_, rfl, Pr.le_refl _⟩, ⟨_, rfl, Pr.le_refl _⟩, ⟨_, rfl, Pr.le_refl _⟩, ⟨_, rfl, Pr.le_refl _⟩, ⟨_, rfl, Pr.le_refl _⟩, ⟨_, rfl, Pr.le_refl _⟩, ⟨_, rfl, Pr.le_refl _⟩, ⟨_, rfl, Pr.le_refl _⟩, trivial⟩ ?_
            refine Tr.reg0 ?_
            first
             | (refine Ch.op rfl rfl (by decide) (ok_add rfl (vl rfl) (vl rfl) ?hin) ?_; case hin => unfold InI; omega)
             | refine Ch.op rfl rfl (by decide) (ok_int rfl (vl rfl) (vl rfl) rfl) ?_
            refine Ch.op rfl rfl (by decide) (ok_move rfl (vl rfl)) ?_
            refine Ch.nil ?_
            first
             | rw [step_out hf0 (by omega)] at hstep
             | rw [step_new hf0 (by omega) hsome0] at hstep
             | rw [step_old hf0 (by omega) hsome hg, if_pos (by unfold better; omega)] at hstep
             | rw [step_old hf0 (by omega) hsome hg, if_neg (by unfold better; omega)] at hstep
            exact Fin.fam (k + 1) ⟨hk_k, by omega⟩ ⟨⟨_, rfl, int_succ k⟩, ⟨_, rfl, Pr.le_refl _⟩, ⟨_, rfl, Pr.le_refl _⟩, ⟨_, rfl, Pr.le_refl _⟩, ⟨_, rfl, Pr.le_refl _⟩, ⟨_, rfl, Pr.le_refl _⟩, ⟨_, rfl, Pr.le_refl _⟩, ⟨_, rfl, Pr.le_refl _⟩, trivial⟩ (fun _ _ h => by rw [hstep]; exact h)
           ·
            have q11 := Nrm.nrm h11
            refine Ch.yes rfl rfl rfl h11 rfl (by decide) (ok_fieldAddr rfl fo42_3 (vl rfl) rfl) ?_
            refine Ch.yes rfl rfl rfl h11 rfl (by decide) (ok_load1 rfl one3 (vl rfl)) ?_
            refine Ch.yes rfl rfl rfl h11 rfl (by decide) (ok_move rfl (vl rfl)) ?_
            refine Ch.yes rfl rfl rfl h11 rfl (by decide) (ok_move rfl (vl rfl)) ?_
            refine Ch.yes rfl rfl rfl h11 rfl (by decide) (ok_indexAddr rfl Tryz.underlying27 sz42 (vl rfl) (vl rfl) (by omega) (row_atI hg)) ?_
            refine Ch.yes rfl rfl rfl h11 rfl (by decide) (ok_fieldAddr rfl fo42_3 (vl rfl) rfl) ?_
            refine Ch.yes rfl rfl rfl h11 rfl (by decide) (ok_load1 rfl one3 (vl rfl)) ?_
            refine Ch.yes rfl rfl rfl h11 rfl (by decide) (ok_int rfl (vl rfl) (vl rfl) rfl) ?_
            refine Ch.yes rfl rfl rfl h11 rfl (by decide) (ok_move rfl (vl rfl)) ?_
            refine Ch.cases 101 rfl (fun h12 => ?_) (fun h12 => ?_)
            ·
             have q12 := Nrm.nrm h12
             refine Ch.yes rfl rfl rfl h12 rfl (by decide) (ok_fieldAddr rfl fo42_4 (vl rfl) rfl) ?_
             refine Ch.yes rfl rfl rfl h12 rfl (by decide) (ok_load1 rfl one3 (vl rfl)) ?_
             refine Ch.yes rfl rfl rfl h12 rfl (by decide) (ok_move rfl (vl rfl)) ?_
             refine Ch.yes rfl rfl rfl h12 rfl (by decide) (ok_move rfl (vl rfl)) ?_
             refine Ch.yes rfl rfl rfl h12 rfl (by decide) (ok_indexAddr rfl Tryz.underlying27 sz42 (vl rfl) (vl rfl) (by omega) (row_atI hg)) ?_
             refine Ch.yes rfl rfl rfl h12 rfl (by decide) (ok_fieldAddr rfl fo42_4 (vl rfl) rfl) ?_
             refine Ch.yes rfl rfl rfl h12 rfl (by decide) (ok_load1 rfl one3 (vl rfl)) ?_
             refine Ch.yes rfl rfl rfl h12 rfl (by decide) (ok_int rfl (vl rfl) (vl rfl) rfl) ?_
             refine Ch.yes rfl rfl rfl h11 rfl (by decide) (ok_pick_t rfl (vl rfl) h12 (vl rfl)) ?_
             refine Ch.op rfl rfl (by decide) (ok_pick_f rfl (vl rfl) h11 (vl rfl)) ?_
             refine Ch.nil ?_
             refine Fin.go ?_
             refine Tr.weak [(0, _), (2, _), (3, _), (5, _), (12, _), (14, _), (15, _), (51, _), (52, _), (53, _), (111, _)] ⟨⟨_, rfl, Pr.le_refl _⟩, ⟨_, rfl, Pr.le_refl _⟩, ⟨_, rfl, Pr.le_refl _⟩, ⟨_, rfl, Pr.le_refl _⟩, ⟨_, rfl, Pr.le_refl _⟩, ⟨_, rfl, Pr.le_refl _⟩, ⟨_, rfl, Pr.le_refl _⟩, ⟨_, rfl, Pr.le_refl _⟩, ⟨_, rfl, Pr.le_refl _⟩, ⟨_, rfl, Pr.le_refl _⟩, ⟨_, rfl, Pr.le_refl _⟩, trivial⟩ ?_
             refine Tr.cond rfl (fun h13 => ?_) (fun h13 => ?_)
             ·
              have q13 := Nrm.nrm h13
              refine Tr.regT ?_
              refine TO.op rfl rfl (by decide) (ok_move rfl (vl rfl)) ?_
              refine TO.op rfl rfl (by decide) (ok_loadA rfl agg42 sz42 (vl rfl) rfl rfl) ?_
              refine TO.op rfl rfl (by decide) (ok_call rfl (w_placeOf) ⟨⟨_, rfl, Pr.le_refl _⟩, trivial⟩) ?_
              refine TO.op rfl rfl (by decide) (ok_move rfl (vl rfl)) ?_
              refine TO.ef0 0 rfl rfl (ef_mapupd (plcOf f) mapT_place rfl rfl rfl (vl rfl) (vl rfl) (fun _ _ _ h => agg_is h) (vl rfl)) ?_
              refine TO.nil ?_
              refine Fin.block ?_
              refine Fin.go ?_
              refine Tr.weak [(0, _), (2, _), (3, _), (5, _), (12, _), (51, _), (52, _), (53, _)] ⟨⟨_, rfl, Pr.le_refl _⟩, ⟨_, rfl, Pr.le_refl _⟩, ⟨_, rfl, Pr.le_refl _⟩, ⟨_, rfl, Pr.le_refl _⟩, ⟨_, rfl, Pr.le_refl _⟩, ⟨_, rfl, Pr.le_refl _⟩, ⟨_, rfl, Pr.le_refl _⟩, ⟨_, rfl, Pr.le_refl _⟩, trivial⟩ ?_
              refine Tr.reg0 ?_
              first
               | (refine Ch.op rfl rfl (by decide) (ok_add rfl (vl rfl) (vl rfl) ?hin) ?_; case hin => unfold InI; omega)
               | refine Ch.op rfl rfl (by decide) (ok_int rfl (vl rfl) (vl rfl) rfl) ?_
              refine Ch.op rfl rfl (by decide) (ok_move rfl (vl rfl)) ?_
              refine Ch.nil ?_
              first
               | rw [step_out hf0 (by omega)] at hstep
               | rw [step_new hf0 (by omega) hsome0] at hstep
               | rw [step_old hf0 (by omega) hsome hg, if_pos (by unfold better; omega)] at hstep
               | rw [step_old hf0 (by omega) hsome hg, if_neg (by unfold better; omega)] at hstep
              exact Fin.fam (k + 1) ⟨hk_k, by omega⟩ ⟨⟨_, rfl, int_succ k⟩, ⟨_, rfl, Pr.le_refl _⟩, ⟨_, rfl, Pr.le_refl _⟩, ⟨_, rfl, Pr.le_refl _⟩, ⟨_, rfl, Pr.le_refl _⟩, ⟨_, rfl, Pr.le_refl _⟩, ⟨_, rfl, Pr.le_refl _⟩, ⟨_, rfl, Pr.le_refl _⟩, trivial⟩ (fun _ _ h => by rw [hstep]; exact h)
             ·
              have q13 := Nrm.nrm h13
              refine Tr.skip ?_
              refine Fin.block ?_
              refine Fin.go ?_
              refine Tr.reg0 ?_
              first
               | (refine Ch.op rfl rfl (by decide) (ok_add rfl (vl rfl) (vl rfl) ?hin) ?_; case hin => unfold InI; omega)
               | refine Ch.op rfl rfl (by decide) (ok_int rfl (vl rfl) (vl rfl) rfl) ?_
              refine Ch.op rfl rfl (by decide) (ok_move rfl (vl rfl)) ?_
              refine Ch.nil ?_
              first
               | rw [step_out hf0 (by omega)] at hstep
               | rw [step_new hf0 (by omega) hsome0] at hstep
               | rw [step_old hf0 (by omega) hsome hg, if_pos (by unfold better; omega)] at hstep
               | rw [step_old hf0 (by omega) hsome hg, if_neg (by unfold better; omega)] at hstep
              exact Fin.fam (k + 1) ⟨hk_k, by omega⟩ ⟨⟨_, rfl, int_succ k⟩, ⟨_, rfl, Pr.le_refl _⟩, ⟨_, rfl, Pr.le_refl _⟩, ⟨_, rfl, Pr.le_refl _⟩, ⟨_, rfl, Pr.le_refl _⟩, ⟨_, rfl, Pr.le_refl _⟩, ⟨_, rfl, Pr.le_refl _⟩, ⟨_, rfl, Pr.le_refl _⟩, trivial⟩ (fun _ _ h => by rw [hstep]; exact h)
            ·
             have q12 := Nrm.nrm h12
             refine Ch.no rfl rfl rfl (ne_true h12) rfl (by decide) ?_
             refine Ch.no rfl rfl rfl (ne_true h12) rfl (by decide) ?_
             refine Ch.no rfl rfl rfl (ne_true h12) rfl (by decide) ?_
             refine Ch.no rfl rfl rfl (ne_true h12) rfl (by decide) ?_
             refine Ch.no rfl rfl rfl (ne_true h12) rfl (by decide) ?_
             refine Ch.no rfl rfl rfl (ne_true h12) rfl (by decide) ?_
             refine Ch.no rfl rfl rfl (ne_true h12) rfl (by decide) ?_
             refine Ch.no rfl rfl rfl (ne_true h12) rfl (by decide) ?_
             refine Ch.yes rfl rfl rfl h11 rfl (by decide) (ok_pick_f rfl (vl rfl) h12 (vl rfl)) ?_
             refine Ch.op rfl rfl (by decide) (ok_pick_f rfl (vl rfl) h11 (vl rfl)) ?_
             refine Ch.nil ?_
             refine Fin.go ?_
             refine Tr.weak [(0, _), (2, _), (3, _), (5, _), (12, _), (14, _), (15, _), (51, _), (52, _), (53, _), (111, _)] ⟨⟨_, rfl, Pr.le_refl _⟩, ⟨_, rfl, Pr.le_refl _⟩, ⟨_, rfl, Pr.le_refl _⟩, ⟨_, rfl, Pr.le_refl _⟩, ⟨_, rfl, Pr.le_refl _⟩, ⟨_, rfl, Pr.le_refl _⟩, ⟨_, rfl, Pr.le_refl _⟩, ⟨_, rfl, Pr.le_refl _⟩, ⟨_, rfl, Pr.le_refl _⟩, ⟨_, rfl, Pr.le_refl _⟩, ⟨_, rfl, Pr.le_refl _⟩, trivial⟩ ?_
             refine Tr.cond rfl (fun h => nomatch h) (fun _ => ?_)
             refine Tr.skip ?_
             refine Fin.block ?_
             refine Fin.go ?_
             refine Tr.reg0 ?_
             first
              | (refine Ch.op rfl rfl (by decide) (ok_add rfl (vl rfl) (vl rfl) ?hin) ?_; case hin => unfold InI; omega)
              | refine Ch.op rfl rfl (by decide) (ok_int rfl (vl rfl) (vl rfl) rfl) ?_
             refine Ch.op rfl rfl (by decide) (ok_move rfl (vl rfl)) ?_
             refine Ch.nil ?_
             first
              | rw [step_out hf0 (by omega)] at hstep
              | rw [step_new hf0 (by omega) hsome0] at hstep
              | rw [step_old hf0 (by omega) hsome hg, if_pos (by unfold better; omega)] at hstep
              | rw [step_old hf0 (by omega) hsome hg, if_neg (by unfold better; omega)] at hstep
             exact Fin.fam (k + 1) ⟨hk_k, by omega⟩ ⟨⟨_, rfl, int_succ k⟩, ⟨_, rfl, Pr.le_refl _⟩, ⟨_, rfl, Pr.le_refl _⟩, ⟨_, rfl, Pr.le_refl _⟩, ⟨_, rfl, Pr.le_refl _⟩, ⟨_, rfl, Pr.le_refl _⟩, ⟨_, rfl, Pr.le_refl _⟩, ⟨_, rfl, Pr.le_refl _⟩, trivial⟩ (fun _ _ h => by rw [hstep]; exact h)
       ·
        have q7 := Nrm.nrm h7
        have he_k : k = (own).length := by have := ge_of_dec h7; omega
        subst he_k
        rw [List.take_length]
        refine Tr.exit ?_
        refine Fin.then_exit ?_
        refine Fin.then_exit ?_
        refine Fin.block_here ?_
        refine Fin.go ?_
        refine Tr.seq ?_
        refine Tr.reg0 ?_
        refine Ch.op rfl rfl (by decide) (ok_assign rfl (vl rfl)) ?_
        refine Ch.nil ?_
        refine Fin.go ?_
        refine Tr.seq ?_
        refine Tr.seq ?_
        refine Tr.regT ?_
        refine TO.op rfl rfl (by decide) (ok_move rfl (vl rfl)) ?_
        refine TO.range mapT_place rfl rfl (by decide) rfl (vl rfl) (show _ = some (mapR encPl _ _) from rfl : _[0]? = _) (fun b3 => ?_)
        refine TO.nil ?_
        refine Fin.go ?_
        refine Tr.block ?_
        refine Tr.addown 40 8 ?_
        refine Tr.loopD1V1 [(0, _), (5, _), (118, _)] ⟨⟨_, rfl, Pr.le_refl _⟩, ⟨_, rfl, Pr.le_refl _⟩, ⟨_, rfl, Pr.le_refl _⟩, trivial⟩ (fun (seen : List Nat) v => [(18, andIs v (lens ((outF l n (decM l own t o) seen).map rowFc).length))]) (fun (seen : List Nat) v => Hp M0 w0 noS ([ownRes 40 8 ((outF l n (decM l own t o) seen).map rowFc) v, iterR b3 b1 (decM l own t o).length seen, mapR encPl b1 (decM l own t o)])) (fun (seen : List Nat) => seen.Nodup ∧ ∀ q ∈ seen, q < (decM l own t o).length) (fun (seen : List Nat) => (decM l own t o).length - seen.length) ([]) (.slice none 0 0) (⟨List.nodup_nil, fun q hq => by cases hq⟩) ⟨⟨_, rfl, lens_nil (by rfl)⟩, trivial⟩ (fun _ _ h => h) ?_
        rintro seen v ⟨hnd, hlt⟩
        refine Tr.seq ?_
        refine Tr.regT ?_
        refine TO.next (i := 1) (j := 2) rfl rfl (by decide) rfl (vl rfl) rfl rfl (fun hall1 => ?_) (fun q1 p1 hq1 hn1 => ?_)
        ·
         refine TO.op rfl rfl (by decide) (ok_extract rfl (vl rfl) rfl) ?_
         refine TO.nil ?_
         refine Fin.go ?_
         refine Tr.seq ?_
         refine Tr.cond rfl (fun h => nomatch h) (fun _ => ?_)
         refine Tr.exit ?_
         refine Fin.then_exit ?_
         refine Fin.then_exit ?_
         refine Fin.block_here ?_
         refine Fin.go ?_
         refine Tr.seq ?_
         refine Tr.regT ?_
         refine TO.op rfl rfl (by decide) (ok_move rfl (vl rfl)) ?_
         refine TO.efc 0 rfl rfl (by decide) (ef_callc rfl rfl (by decide) rfl (w_sortOF (c := fun p => cmpFc p.1 p.2) cmpFc_cmp.swo (Nat.lt_of_le_of_lt (Nat.le_trans (outF_len ..) (nodup_len hnd hlt)) hml)) ⟨⟨_, rfl, andIs_is _ _⟩, ⟨_, rfl, fn_le_clo e_aCompare (fun _ => w_aCompare)⟩, trivial⟩) ?_
         refine TO.frzL 0 18 rfl rfl (fun _ => rfl) (fun t1 hp1 => ?_)
         have hpl1 := hp1.len
         have hsp := sortL_spec cmpFc_cmp hp1
         have hst : t1.Perm ((decM l own t o).filterMap fun p => factOf l n p.2) := hsp.1.trans (outF_perm hnd hlt hall1)
         refine TO.nil ?_
         refine Fin.go ?_
         refine Tr.seq ?_
         refine Tr.reg0 ?_
         refine Ch.op rfl rfl (by decide) (ok_move rfl (vl rfl)) ?_
         refine Ch.op rfl rfl (by decide) (ok_assign rfl (vl rfl)) ?_
         refine Ch.op rfl rfl (by decide) (ok_assign rfl (vl rfl)) ?_
         refine Ch.nil ?_
         refine Fin.go ?_
         refine Tr.ret ?_
         refine Fin.retX2 rfl (RVal.tmp rfl (Pr.le_refl _)) (RVal.tmp rfl (Pr.le_refl _)) ?_
         · exact ex_in _ (fact_in ⟨hst, hsp.2⟩ (tup_le ⟨andIs_le _ _, Pr.le_refl _, trivial⟩))
        ·
         refine TO.op rfl rfl (by decide) (ok_extract rfl (vl rfl) rfl) ?_
         refine TO.nil ?_
         refine Fin.go ?_
         refine Tr.seq ?_
         refine Tr.cond rfl (fun _ => ?_) (fun h => nomatch h)
         refine Tr.skip ?_
         refine Fin.go ?_
         refine Tr.block ?_
         refine Tr.seq ?_
         have hin := (dec_in (l := l) (t := t) (o := o) own [] (by intro p hp; simp at hp) hi) p1 (List.mem_of_getElem? hq1)
         obtain ⟨g, hg⟩ := at_ (l := l) (k := p1.2.toNat) (by omega)
         have hof := outF_snoc l n (decM l own t o) seen q1
         rw [hq1] at hof
         have hol := Nat.le_trans (outF_len l n (decM l own t o) seen) (nodup_len hnd hlt)
         refine Tr.regT ?_
         refine TO.entry (i := 1) (j := 2) rfl rfl (by decide) rfl (vl rfl) rfl rfl hq1 ?_
         refine TO.op rfl rfl (by decide) (ok_extract rfl (vl rfl) rfl) ?_
         refine TO.op rfl rfl (by decide) (ok_assign rfl (vl rfl)) ?_
         refine TO.nil ?_
         refine Fin.go ?_
         refine Tr.seq ?_
         refine Tr.regT ?_
         refine TO.op rfl rfl (by decide) (ok_move rfl (vl rfl)) ?_
         refine TO.op rfl rfl (by decide) (ok_move rfl (vl rfl)) ?_
         refine TO.op rfl rfl (by decide) (ok_indexAddr rfl Tryz.underlying27 sz42 (vl rfl) (vl rfl) (by omega) (row_atI hg)) ?_
         refine TO.op rfl rfl (by decide) (ok_loadA rfl agg42 sz42 (vl rfl) rfl rfl) ?_
         refine TO.alloc rfl rfl (by decide) rfl z42 zo42 (fun b4 => ?_)
         refine TO.store_all 0 rfl rfl rfl (vl rfl) (VL.le (vl rfl) (agg_cellsP _)) rfl sz42 rfl rfl ?_
         refine TO.freeze 0 21 rfl rfl ?_
         refine TO.nil ?_
         refine Fin.go ?_
         refine Tr.weak [(0, _), (5, _), (18, _), (20, _), (21, _), (118, _)] ⟨⟨_, rfl, Pr.le_refl _⟩, ⟨_, rfl, Pr.le_refl _⟩, ⟨_, rfl, Pr.le_refl _⟩, ⟨_, rfl, Pr.le_refl _⟩, ⟨_, rfl, Pr.le_refl _⟩, ⟨_, rfl, Pr.le_refl _⟩, trivial⟩ ?_
         refine Tr.seq ?_
         refine Tr.reg0 ?_
         refine Ch.op rfl rfl (by decide) (ok_fieldAddr rfl fo42_5 (vl rfl) rfl) ?_
         refine Ch.op rfl rfl (by decide) (ok_load1 rfl one3 (vl rfl)) ?_
         refine Ch.op rfl rfl (by decide) (ok_int rfl (vl rfl) (vl rfl) rfl) ?_
         refine Ch.nil ?_
         refine Fin.go ?_
         refine Tr.cond rfl (fun h14 => ?_) (fun h14 => ?_)
         ·
          have q14 := Nrm.nrm h14
          refine Tr.regT ?_
          refine TO.op rfl rfl (by decide) (ok_move rfl (vl rfl)) ?_
          refine TO.op rfl rfl (by decide) (ok_fieldAddr rfl fo35_0 (vl rfl) rfl) ?_
          refine TO.op rfl rfl (by decide) (ok_load1 rfl one3 (vl rfl)) ?_
          refine TO.op rfl rfl (by decide) (ok_fieldAddr rfl fo42_6 (vl rfl) rfl) ?_
          refine TO.op rfl rfl (by decide) (ok_load1 rfl one9 (vl rfl)) ?_
          refine TO.op rfl rfl (by decide) (ok_fieldAddr rfl fo42_5 (vl rfl) rfl) ?_
          refine TO.op rfl rfl (by decide) (ok_load1 rfl one3 (vl rfl)) ?_
          refine TO.op rfl rfl (by decide) (ok_fieldAddr rfl fo42_7 (vl rfl) rfl) ?_
          refine TO.op rfl rfl (by decide) (ok_loadA rfl agg38 sz38 (vl rfl) rfl rfl) ?_
          refine TO.op rfl rfl (by decide) (ok_fieldAddr rfl fo42_8 (vl rfl) rfl) ?_
          refine TO.op rfl rfl (by decide) (ok_load1 rfl one3 (vl rfl)) ?_
          refine TO.op rfl rfl (by decide) (ok_fieldAddr rfl fo42_9 (vl rfl) rfl) ?_
          refine TO.op rfl rfl (by decide) (ok_load1 rfl one9 (vl rfl)) ?_
          refine TO.op rfl rfl (by decide) (ok_move rfl (vl rfl)) ?_
          refine TO.op rfl rfl (by decide) (ok_build (rows := [(0, [_]), (1, [_]), (2, [_]), (3, _), (4, [_]), (5, [_]), (6, [_])]) rfl bl40 zo40 ⟨⟨rfl, (VL.le (vl rfl) (one_cellsP _))⟩, ⟨⟨rfl, (VL.le (vl rfl) (one_cellsP _))⟩, ⟨⟨rfl, (VL.le (vl rfl) (one_cellsP _))⟩, ⟨⟨rfl, (VL.le (vl rfl) (agg_cellsP _))⟩, ⟨⟨rfl, (VL.le (vl rfl) (one_cellsP _))⟩, ⟨⟨rfl, (VL.le (vl rfl) (one_cellsP _))⟩, ⟨⟨rfl, (VL.le (vl rfl) (one_cellsP _))⟩, trivial⟩⟩⟩⟩⟩⟩⟩ rfl) ?_
          refine TO.op rfl rfl (by decide) (ok_buildSlice (xs := [.tmp 144]) (rows := [_]) rfl rfl Tryz.underlying29 sz40 z40 rfl (by decide) ⟨⟨(by exact rfl), (VL.le (vl rfl) (agg_cellsP _))⟩, trivial⟩ (by decide)) ?_
          refine TO.efs 0 rfl rfl (by decide) (ef_appmut rfl rfl (by decide) rfl Tryz.underlying29 sz40 by40 z40 rfl (by decide) (by decide) (vl rfl) ⟨_, rfl, full_le _ _⟩ (map_rows fun _ => rfl) (Nat.zero_lt_succ _) (by simp only [List.length_map, List.length_cons, List.length_nil]; unfold maxLen; omega) (by simp only [List.length_map, List.length_cons, List.length_nil]; omega)) (fun v1 => ?_)
          refine TO.op rfl rfl (by decide) (ok_assign rfl (vl rfl)) ?_
          refine TO.nil ?_
          refine Fin.block ?_
          first
           | rw [show ((some p1).bind fun p => factOf l n p.2) = _ from fact_no hg (by omega)] at hof
           | rw [show ((some p1).bind fun p => factOf l n p.2) = _ from fact_yes hg (by omega)] at hof
          exact Fin.famD1V1 (seen ++ [q1]) v1 (seen_next hnd hlt hn1 (lt_of_at hq1)) ⟨⟨_, rfl, lens_le (by rw [hof, List.map_append, List.length_append]; first | rfl | simp)⟩, ⟨_, rfl, Pr.le_refl _⟩, ⟨_, rfl, Pr.le_refl _⟩, ⟨_, rfl, Pr.le_refl _⟩, trivial⟩ (fun _ _ h => own_cast (by rw [hof, List.map_append]; first | rfl | simp) h)
         ·
          have q14 := Nrm.nrm h14
          refine Tr.skip ?_
          refine Fin.block ?_
          first
           | rw [show ((some p1).bind fun p => factOf l n p.2) = _ from fact_no hg (by omega)] at hof
           | rw [show ((some p1).bind fun p => factOf l n p.2) = _ from fact_yes hg (by omega)] at hof
          exact Fin.famD1V1 (seen ++ [q1]) v (seen_next hnd hlt hn1 (lt_of_at hq1)) ⟨⟨_, rfl, lens_le (by rw [hof, List.map_append, List.length_append]; first | rfl | simp)⟩, ⟨_, rfl, Pr.le_refl _⟩, ⟨_, rfl, Pr.le_refl _⟩, ⟨_, rfl, Pr.le_refl _⟩, trivial⟩ (fun _ _ h => own_cast (by rw [hof, List.map_append]; first | rfl | simp) h)
end Go.Proofs.YthmnoekgicggnaaGreat
namespace Go.Proofs.YthmnoekgicggnaaGreat
open Go Go.RowKit Cp

theorem look_none {m : List (Plc × Int)} {k : Plc} (h : Cp.look m k = none) : ∀ p ∈ m, ¬ p.1 = k := by
  intro p hp e
  unfold Cp.look at h
  rw [Option.map_eq_none_iff, List.find?_eq_none] at h
  exact h p hp (by simp [e])
theorem look_some {m : List (Plc × Int)} {k : Plc} {j : Int} (h : Cp.look m k = some j) : (k, j) ∈ m := by
  unfold Cp.look at h
  rw [Option.map_eq_some_iff] at h
  obtain ⟨p, h1, h2⟩ := h
  have h3 := List.find?_some h1
  have h4 : k = p.1 := by simpa using h3
  have h5 := List.mem_of_find?_eq_some h1
  rw [h4, ← h2]; exact h5
abbrev KeysN (m : List (Plc × Int)) : Prop := m.Pairwise fun p q => ¬ p.1 = q.1
theorem keys_eq {m : List (Plc × Int)} (h : KeysN m) {p q : Plc × Int} (hp : p ∈ m) (hq : q ∈ m) (e : p.1 = q.1) : p = q := by
  induction m with
  | nil => cases hp
  | cons a m ih =>
    obtain ⟨h1, h2⟩ := List.pairwise_cons.1 h
    rcases List.mem_cons.1 hp with hp' | hp' <;> rcases List.mem_cons.1 hq with hq' | hq'
    · rw [hp', hq']
    · rw [hp'] at e; exact absurd e (h1 q hq')
    · rw [hq'] at e; exact absurd e.symm (h1 p hp')
    · exact ih h2 hp' hq'
theorem upd_new {m : List (Plc × Int)} {k : Plc} {v : Int} (h : Cp.look m k = none) : updM m k v = m ++ [(k, v)] := by
  refine Cp.updM_none ?_
  rw [List.findIdx?_eq_none_iff]
  intro p hp
  have := look_none h p hp
  simpa using fun e => this e.symm
theorem upd_old {m : List (Plc × Int)} {k : Plc} {j v : Int} (hn : KeysN m) (h : Cp.look m k = some j) : KeysN (updM m k v) ∧ ∀ p, p ∈ updM m k v ↔ p = (k, v) ∨ (p ∈ m ∧ ¬ p.1 = k) := by
  induction m with
  | nil => cases look_some h
  | cons a m ih =>
    obtain ⟨h1, h2⟩ := List.pairwise_cons.1 hn
    by_cases ha : k = a.1
    · have e : updM (a :: m) k v = (k, v) :: m := by
        rw [Cp.updM_some (i := 0) (by rw [List.findIdx?_cons]; simp [ha])]; rfl
      rw [e]
      refine ⟨List.pairwise_cons.2 ⟨fun q hq => ?_, h2⟩, fun p => ⟨fun hp => ?_, fun hp => ?_⟩⟩
      · show ¬ k = q.1; rw [ha]; exact h1 q hq
      · rcases List.mem_cons.1 hp with rfl | hp
        · exact .inl rfl
        · exact .inr ⟨List.mem_cons_of_mem _ hp, by rw [ha]; exact fun e => h1 p hp e.symm⟩
      · rcases hp with rfl | ⟨hp, hk⟩
        · exact List.mem_cons_self ..
        · rcases List.mem_cons.1 hp with rfl | hp
          · exact absurd ha.symm hk
          · exact List.mem_cons_of_mem _ hp
    · have hl : Cp.look m k = some j := by
        unfold Cp.look at h ⊢
        rw [List.find?_cons_of_neg (by simpa using ha)] at h; exact h
      obtain ⟨q, hq⟩ : ∃ q, (m.findIdx? fun p => decide (k = p.1)) = some q := by
        cases hf : m.findIdx? fun p => decide (k = p.1) with
        | some q => exact ⟨q, rfl⟩
        | none =>
          rw [List.findIdx?_eq_none_iff] at hf
          have := hf _ (look_some hl)
          simp at this
      have e : updM (a :: m) k v = a :: updM m k v := by
        rw [Cp.updM_some hq, Cp.updM_some (i := q + 1) (by rw [List.findIdx?_cons]; simp [ha, hq])]; rfl
      obtain ⟨h3, h4⟩ := ih h2 hl
      rw [e]
      refine ⟨List.pairwise_cons.2 ⟨fun p hp => ?_, h3⟩, fun p => ?_⟩
      · rcases (h4 p).1 hp with rfl | ⟨hp, _⟩
        · exact fun e => ha e.symm
        · exact h1 p hp
      · rw [List.mem_cons, h4 p, List.mem_cons]
        constructor
        · rintro (rfl | h | ⟨h, h'⟩)
          · exact .inr ⟨.inl rfl, fun e => ha e.symm⟩
          · exact .inl h
          · exact .inr ⟨.inr h, h'⟩
        · rintro (h | ⟨rfl | h, h'⟩)
          · exact .inr (.inl h)
          · exact .inl rfl
          · exact .inr (.inr ⟨h, h'⟩)
/-- In the time that counts. -/
abbrev InT (t o : Int) (f : Fnd) : Prop := ¬ (f.day > t ∨ f.day < t - o)
/-- What the map holds once these were looked at. -/
structure DecI (l : List Fnd) (t o : Int) (done : List Int) (m : List (Plc × Int)) : Prop where
  keys : KeysN m
  val : ∀ p ∈ m, p.2 ∈ done ∧ ∃ f, l[p.2.toNat]? = some f ∧ plcOf f = p.1 ∧ InT t o f
  best : ∀ j ∈ done, ∀ g, l[j.toNat]? = some g → InT t o g → ∃ p ∈ m, p.1 = plcOf g ∧ ∃ f, l[p.2.toNat]? = some f ∧ ¬ better g f ∧ (¬ better f g → p.2 ≤ j)
theorem dec_step {l : List Fnd} {t o : Int} {done : List Int} {m : List (Plc × Int)} {i : Int} (hi : i.toNat < l.length) (hle : ∀ j ∈ done, j ≤ i) (h : DecI l t o done m) : DecI l t o (done ++ [i]) (stepM l t o m i) := by
  obtain ⟨f, hf⟩ := at_ hi
  have hmem : ∀ j, j ∈ done ++ [i] ↔ j ∈ done ∨ j = i := fun j => by simp
  by_cases hout : f.day > t ∨ f.day < t - o
  · rw [step_out hf hout]
    refine ⟨h.keys, fun p hp => ?_, fun j hj g hg hin => ?_⟩
    · obtain ⟨h1, h2⟩ := h.val p hp
      exact ⟨(hmem _).2 (.inl h1), h2⟩
    · rcases (hmem j).1 hj with hj | rfl
      · exact h.best j hj g hg hin
      · rw [hf] at hg; cases hg; exact absurd hout hin
  · cases hl : Cp.look m (plcOf f) with
    | none =>
      rw [step_new hf hout (by rw [hl]; rfl), upd_new hl]
      refine ⟨?_, fun p hp => ?_, fun j hj g hg hin => ?_⟩
      · unfold KeysN
        rw [List.pairwise_append]
        exact ⟨h.keys, by simp, fun p hp q hq => by simp at hq; subst hq; exact look_none hl p hp⟩
      · rcases List.mem_append.1 hp with hp | hp
        · obtain ⟨h1, h2⟩ := h.val p hp
          exact ⟨(hmem _).2 (.inl h1), h2⟩
        · simp at hp; subst hp; exact ⟨(hmem _).2 (.inr rfl), f, hf, rfl, hout⟩
      · rcases (hmem j).1 hj with hj | rfl
        · obtain ⟨p, hp, h1⟩ := h.best j hj g hg hin
          exact ⟨p, List.mem_append_left _ hp, h1⟩
        · rw [hf] at hg; cases hg
          exact ⟨(plcOf f, j), by simp, rfl, f, hf, by unfold better; omega, fun _ => Int.le_refl _⟩
    | some q =>
      have hqm := look_some hl
      obtain ⟨hqd, g0, hg0, hpl, hin0⟩ := h.val _ hqm
      rw [step_old hf hout (by rw [hl]; rfl) (g := g0) (by rw [hl]; exact hg0)]
      by_cases hb : better f g0
      · rw [if_pos hb]
        obtain ⟨hk, hu⟩ := upd_old (v := i) h.keys hl
        refine ⟨hk, fun p hp => ?_, fun j hj g hg hin => ?_⟩
        · rcases (hu p).1 hp with rfl | ⟨hp, _⟩
          · exact ⟨(hmem _).2 (.inr rfl), f, hf, rfl, hout⟩
          · obtain ⟨h1, h2⟩ := h.val p hp
            exact ⟨(hmem _).2 (.inl h1), h2⟩
        · rcases (hmem j).1 hj with hj | rfl
          · obtain ⟨p, hp, h1, f1, hf1, h2, h3⟩ := h.best j hj g hg hin
            by_cases hpk : p.1 = plcOf f
            · have e := keys_eq h.keys hp hqm hpk
              subst e
              have e2 : f1 = g0 := by have := hf1.symm.trans hg0; simpa using this
              subst e2
              exact ⟨(plcOf f, i), (hu _).2 (.inl rfl), by rw [← hpk]; exact h1, f, hf, by unfold better at *; omega, fun h4 => absurd (show better f g by unfold better at *; omega) h4⟩
            · exact ⟨p, (hu p).2 (.inr ⟨hp, hpk⟩), h1, f1, hf1, h2, h3⟩
          · rw [hf] at hg; cases hg
            exact ⟨(plcOf f, j), (hu _).2 (.inl rfl), rfl, f, hf, by unfold better; omega, fun _ => Int.le_refl _⟩
      · rw [if_neg hb]
        refine ⟨h.keys, fun p hp => ?_, fun j hj g hg hin => ?_⟩
        · obtain ⟨h1, h2⟩ := h.val p hp
          exact ⟨(hmem _).2 (.inl h1), h2⟩
        · rcases (hmem j).1 hj with hj | rfl
          · exact h.best j hj g hg hin
          · rw [hf] at hg; cases hg
            exact ⟨_, hqm, rfl, g0, hg0, hb, fun _ => hle q hqd⟩
theorem dec_spec {l : List Fnd} {t o : Int} {own : List Int} (hi : InR own l.length) (ha : own.Pairwise (· ≤ ·)) : DecI l t o own (decM l own t o) := by
  have key : ∀ (r done : List Int) (m : List (Plc × Int)), InR r l.length → (∀ j ∈ done, ∀ i ∈ r, j ≤ i) → r.Pairwise (· ≤ ·) → DecI l t o done m → DecI l t o (done ++ r) (r.foldl (stepM l t o) m) := by
    intro r
    induction r with
    | nil => intro done m _ _ _ h; simpa using h
    | cons i r ih =>
      intro done m h1 h2 h3 h
      obtain ⟨h4, h5⟩ := List.pairwise_cons.1 h3
      have hi := h1 i (by simp)
      have := ih (done ++ [i]) (stepM l t o m i) (fun j hj => h1 j (List.mem_cons_of_mem _ hj)) (fun j hj k hk => by
        rcases List.mem_append.1 hj with hj | hj
        · exact h2 j hj k (List.mem_cons_of_mem _ hk)
        · simp at hj; subst hj; exact h4 k hk) h5 (dec_step (by omega) (fun j hj => h2 j hj i (by simp)) h)
      simpa using this
  have := key own [] [] hi (by simp) ha ⟨.nil, by simp, by simp⟩
  show DecI l t o own (own.foldl (stepM l t o) [])
  simpa using this
/-- What a fact is the fact of. -/
theorem fact_of {l : List Fnd} {n t o : Int} {own : List Int} (hi : InR own l.length) (ha : own.Pairwise (· ≤ ·)) {a : Fct} (h : a ∈ (decM l own t o).filterMap fun p => factOf l n p.2) :
    ∃ f, a.fnd ∈ own ∧ l[a.fnd.toNat]? = some f ∧ ¬ f.kind = 8 ∧ InT t o f ∧ a = ⟨n, f.subj, f.kind, f.alg, f.bits, f.num, f.text, a.fnd⟩ ∧ (plcOf f, a.fnd) ∈ decM l own t o ∧ ∀ j ∈ own, ∀ g, l[j.toNat]? = some g → InT t o g → plcOf g = plcOf f → ¬ better g f ∧ (¬ better f g → a.fnd ≤ j) := by
  obtain ⟨p, hp, h1⟩ := List.mem_filterMap.1 h
  have hd := dec_spec (t := t) (o := o) hi ha
  obtain ⟨h2, f, hf, h3, h4⟩ := hd.val p hp
  by_cases hk : f.kind = 8
  · rw [fact_no hf hk] at h1; cases h1
  · rw [fact_yes hf hk] at h1
    injection h1 with h1
    subst h1
    refine ⟨f, h2, hf, hk, h4, rfl, by rw [h3]; exact hp, fun j hj g hg hin e => ?_⟩
    obtain ⟨q, hq, h5, f1, hf1, h6, h7⟩ := hd.best j hj g hg hin
    have e2 := keys_eq hd.keys hp hq (by rw [h5, e, h3])
    subst e2
    rw [hf] at hf1; cases hf1
    exact ⟨h6, h7⟩

end Go.Proofs.YthmnoekgicggnaaGreat
namespace Go.Proofs.YthmnoekgicggnaaGreat
open Go Go.RowKit Cp

def ofPlc (p : Plc) : Fnd := ⟨0, [], 0, 0, 0, p.kind, p.subj, p.alg, p.bits, p.num, p.text⟩
theorem ofPlc_inj {p q : Plc} (h : ofPlc p = ofPlc q) : p = q := by
  cases p; cases q; unfold ofPlc at h; simp at h ⊢; exact ⟨h.2.1, h.2.2.2.2.2, h.1, h.2.2.2.2.1, h.2.2.1, h.2.2.2.1⟩
theorem asc_pw_le {l : List Int} (h : Asc l) : l.Pairwise (· ≤ ·) := by
  rw [List.pairwise_iff_getElem]
  intro i j hi hj hij
  exact asc_le h (j - i) i (List.getElem?_eq_getElem hi) (by rw [show i + (j - i) = j by omega]; exact List.getElem?_eq_getElem hj)
theorem fnd_of {x y : Fnd} (h : x.src = y.src ∧ x.host = y.host ∧ x.machine = y.machine ∧ x.day = y.day ∧ x.conf = y.conf ∧ x.kind = y.kind ∧ x.subj = y.subj ∧ x.alg = y.alg ∧ x.bits = y.bits ∧ x.num = y.num ∧ x.text = y.text) : x = y := by
  cases x; cases y; simp at h; simp [h]
theorem numsTo_in (n : Nat) : InR (numsTo n) n := by
  intro i hi
  obtain ⟨k, hk⟩ := List.mem_iff_getElem?.1 hi
  have h1 := numsTo_at hk
  have h2 := lt_of_at hk
  rw [numsTo_len] at h2
  omega
theorem mem_numsTo {n k : Nat} (h : k < n) : ((k : Nat) : Int) ∈ numsTo n := by
  unfold numsTo; exact List.mem_map.2 ⟨k, List.mem_range.2 h, rfl⟩

set_option maxRecDepth 20000 in
theorem w_RPlace {f : Fnd}  : Fun Tryz.prog 14 [agg (rowF f)] (agg (rowF (ofPlc (plcOf f)))) := by
 refine Fun.of Tryz.func14 rfl rfl (by exact Nat.le_of_ble_eq_true rfl) fun M0 w0 => ?_
 refine Tr.seq ?_
 refine Tr.regT ?_
 refine TO.op rfl rfl (by decide) (ok_box rfl (VL.le (vl rfl) (agg_cellsP _))) ?_
 refine TO.alloc rfl rfl (by decide) rfl z42 zo42 (fun b1 => ?_)
 refine TO.nil ?_
 refine Fin.go ?_
 refine Tr.seq ?_
 refine Tr.regT ?_
 refine TO.op rfl rfl (by decide) (ok_fieldAddr rfl fo42_6 (vl rfl) rfl) ?_
 refine TO.op rfl rfl (by decide) (ok_load1 rfl one9 (vl rfl)) ?_
 refine TO.op rfl rfl (by decide) (ok_fieldAddr rfl fo42_5 (vl rfl) rfl) ?_
 refine TO.op rfl rfl (by decide) (ok_load1 rfl one3 (vl rfl)) ?_
 refine TO.op rfl rfl (by decide) (ok_build (rows := [(6, [_]), (5, [_])]) rfl bl42 zo42 ⟨⟨rfl, (VL.le (vl rfl) (one_cellsP _))⟩, ⟨⟨rfl, (VL.le (vl rfl) (one_cellsP _))⟩, trivial⟩⟩ rfl) ?_
 refine TO.alloc rfl rfl (by decide) rfl z42 zo42 (fun b2 => ?_)
 refine TO.store_all 0 rfl rfl rfl (vl rfl) (VL.le (vl rfl) (agg_cellsP _)) rfl sz42 rfl rfl ?_
 refine TO.nil ?_
 refine Fin.go ?_
 refine Tr.seq ?_
 refine Tr.seq ?_
 refine Tr.reC 0 [int 0, str [], int 0, int 0, int 0, int f.kind, str f.subj, int 0, int 0, int 0, str []] rfl ⟨Pr.le_refl _, Pr.le_refl _, Pr.le_refl _, Pr.le_refl _, Pr.le_refl _, Pr.le_refl _, Pr.le_refl _, Pr.le_refl _, Pr.le_refl _, Pr.le_refl _, Pr.le_refl _, trivial⟩ ?_
 refine Tr.reg0 ?_
 refine Ch.op rfl rfl (by decide) (ok_fieldAddr rfl fo42_5 (vl rfl) rfl) ?_
 refine Ch.op rfl rfl (by decide) (ok_load1 rfl one3 (vl rfl)) ?_
 refine Ch.nil ?_
 refine Fin.go ?_
 refine Tr.block ?_
 refine Tr.seq ?_
 refine Tr.seq ?_
 refine Tr.reg0 ?_
 refine Ch.op rfl rfl (by decide) (ok_int rfl (vl rfl) (vl rfl) rfl) ?_
 refine Ch.op rfl rfl (by decide) (ok_assign rfl (vl rfl)) ?_
 refine Ch.nil ?_
 refine Fin.go ?_
 refine Tr.weak [(1, _), (2, _), (3, _), (10, _), (11, _)] ⟨⟨_, rfl, Pr.le_refl _⟩, ⟨_, rfl, Pr.le_refl _⟩, ⟨_, rfl, Pr.le_refl _⟩, ⟨_, rfl, Pr.le_refl _⟩, ⟨_, rfl, Pr.le_refl _⟩, trivial⟩ ?_
 refine Tr.cond rfl (fun h1 => ?_) (fun h1 => ?_)
 ·
  have q1 := Nrm.nrm h1
  refine Tr.skip ?_
  refine Fin.go ?_
  refine Tr.cond rfl (fun _ => ?_) (fun h => nomatch h1.symm.trans h)
  refine Tr.regX mixed [none, none, none, some (0, 0, true, 0), none, some (0, 0, true, 0)] (by kernel_rfl) ?_
  refine Cx.op rfl rfl (by decide) (fun _ => ok_fieldAddr rfl fo42_7 (vl rfl) rfl) ?_
  refine Cx.op rfl rfl (by decide) (fun _ => ok_loadA rfl agg38 sz38 (vl rfl) rfl rfl) ?_
  refine Cx.op rfl rfl (by decide) (fun _ => okp_fieldAddr rfl fo42_5 (vl rfl)) ?_
  refine Cx.ef0 0 rfl rfl (ef_store rfl rfl (vl rfl) (VL.le (vl rfl) (one_cellsP _)) sz3 rfl (by exact Nat.le_of_ble_eq_true rfl) rfl) ?_
  refine Cx.op rfl rfl (by decide) (fun _ => okp_fieldAddr rfl fo42_7 (vl rfl)) ?_
  refine Cx.ef0 0 rfl rfl (ef_store rfl rfl (vl rfl) (VL.le (vl rfl) (agg_cellsP _)) sz38 rfl (by exact Nat.le_of_ble_eq_true rfl) rfl) ?_
  refine Cx.nil ⟨rfl, ?_⟩
  refine FinX.done (AllC.cons (AllC.cons (AllC.map _))) ?_
  refine Fin.block ?_
  refine Fin.go ?_
  refine Tr.seq ?_
  refine Tr.reC 0 [int 0, str [], int 0, int 0, int 0, int 1, str f.subj, int f.alg, int f.bits, int 0, str []] rfl ⟨Pr.le_refl _, Pr.le_refl _, Pr.le_refl _, Pr.le_refl _, Pr.le_refl _, Pr.le_refl _, Pr.le_refl _, Pr.le_refl _, Pr.le_refl _, Pr.le_refl _, Pr.le_refl _, trivial⟩ ?_
  refine Tr.regT ?_
  refine TO.rd 0 rfl rfl rfl (by decide) (rd_loadA rfl agg42 sz42 (vl rfl) rfl rfl) ?_
  refine TO.store_all 1 rfl rfl rfl (vl rfl) (VL.le (vl rfl) (agg_cellsP _)) rfl sz42 rfl rfl ?_
  refine TO.nil ?_
  refine Fin.go ?_
  refine Tr.drop 0 ?_
  refine Tr.ret ?_
  refine Fin.retX1 rfl (RVal.cell 0 rfl rfl agg42 sz42 rfl (Pr.le_refl _)) ?_
  · unfold ofPlc plcOf; rw [if_pos (by omega)]; exact Pr.le_refl _
 ·
  have q1 := Nrm.nrm h1
  refine Tr.reg0 ?_
  refine Ch.op rfl rfl (by decide) (ok_int rfl (vl rfl) (vl rfl) rfl) ?_
  refine Ch.op rfl rfl (by decide) (ok_assign rfl (vl rfl)) ?_
  refine Ch.nil ?_
  refine Fin.go ?_
  refine Tr.cond rfl (fun h2 => ?_) (fun h2 => ?_)
  ·
   have q2 := Nrm.nrm h2
   refine Tr.regX mixed [none, none, none, some (0, 0, true, 0), none, some (0, 0, true, 0)] (by kernel_rfl) ?_
   refine Cx.op rfl rfl (by decide) (fun _ => ok_fieldAddr rfl fo42_7 (vl rfl) rfl) ?_
   refine Cx.op rfl rfl (by decide) (fun _ => ok_loadA rfl agg38 sz38 (vl rfl) rfl rfl) ?_
   refine Cx.op rfl rfl (by decide) (fun _ => okp_fieldAddr rfl fo42_5 (vl rfl)) ?_
   refine Cx.ef0 0 rfl rfl (ef_store rfl rfl (vl rfl) (VL.le (vl rfl) (one_cellsP _)) sz3 rfl (by exact Nat.le_of_ble_eq_true rfl) rfl) ?_
   refine Cx.op rfl rfl (by decide) (fun _ => okp_fieldAddr rfl fo42_7 (vl rfl)) ?_
   refine Cx.ef0 0 rfl rfl (ef_store rfl rfl (vl rfl) (VL.le (vl rfl) (agg_cellsP _)) sz38 rfl (by exact Nat.le_of_ble_eq_true rfl) rfl) ?_
   refine Cx.nil ⟨rfl, ?_⟩
   refine FinX.done (AllC.cons (AllC.cons (AllC.map _))) ?_
   refine Fin.block ?_
   refine Fin.go ?_
   refine Tr.seq ?_
   refine Tr.reC 0 [int 0, str [], int 0, int 0, int 0, int 1, str f.subj, int f.alg, int f.bits, int 0, str []] rfl ⟨Pr.le_refl _, Pr.le_refl _, Pr.le_refl _, Pr.le_refl _, Pr.le_refl _, Pr.le_refl _, Pr.le_refl _, Pr.le_refl _, Pr.le_refl _, Pr.le_refl _, Pr.le_refl _, trivial⟩ ?_
   refine Tr.regT ?_
   refine TO.rd 0 rfl rfl rfl (by decide) (rd_loadA rfl agg42 sz42 (vl rfl) rfl rfl) ?_
   refine TO.store_all 1 rfl rfl rfl (vl rfl) (VL.le (vl rfl) (agg_cellsP _)) rfl sz42 rfl rfl ?_
   refine TO.nil ?_
   refine Fin.go ?_
   refine Tr.drop 0 ?_
   refine Tr.ret ?_
   refine Fin.retX1 rfl (RVal.cell 0 rfl rfl agg42 sz42 rfl (Pr.le_refl _)) ?_
   · unfold ofPlc plcOf; rw [if_pos (by omega)]; exact Pr.le_refl _
  ·
   have q2 := Nrm.nrm h2
   refine Tr.seq ?_
   refine Tr.seq ?_
   refine Tr.reg0 ?_
   refine Ch.op rfl rfl (by decide) (ok_int rfl (vl rfl) (vl rfl) rfl) ?_
   refine Ch.op rfl rfl (by decide) (ok_assign rfl (vl rfl)) ?_
   refine Ch.nil ?_
   refine Fin.go ?_
   refine Tr.cond rfl (fun h3 => ?_) (fun h3 => ?_)
   ·
    have q3 := Nrm.nrm h3
    refine Tr.skip ?_
    refine Fin.go ?_
    refine Tr.cond rfl (fun _ => ?_) (fun h => nomatch h3.symm.trans h)
    refine Tr.regT ?_
    refine TO.op rfl rfl (by decide) (ok_fieldAddr rfl fo42_8 (vl rfl) rfl) ?_
    refine TO.op rfl rfl (by decide) (ok_load1 rfl one3 (vl rfl)) ?_
    refine TO.op rfl rfl (by decide) (okp_fieldAddr rfl fo42_8 (vl rfl)) ?_
    refine TO.ef0 0 rfl rfl (ef_store rfl rfl (vl rfl) (VL.le (vl rfl) (one_cellsP _)) sz3 rfl (by exact Nat.le_of_ble_eq_true rfl) rfl) ?_
    refine TO.nil ?_
    refine Fin.block ?_
    refine Fin.go ?_
    refine Tr.seq ?_
    refine Tr.reC 0 [int 0, str [], int 0, int 0, int 0, int f.kind, str f.subj, int 0, int 0, int f.num, str []] rfl ⟨Pr.le_refl _, Pr.le_refl _, Pr.le_refl _, Pr.le_refl _, Pr.le_refl _, Pr.le_refl _, Pr.le_refl _, Pr.le_refl _, Pr.le_refl _, Pr.le_refl _, Pr.le_refl _, trivial⟩ ?_
    refine Tr.regT ?_
    refine TO.rd 0 rfl rfl rfl (by decide) (rd_loadA rfl agg42 sz42 (vl rfl) rfl rfl) ?_
    refine TO.store_all 1 rfl rfl rfl (vl rfl) (VL.le (vl rfl) (agg_cellsP _)) rfl sz42 rfl rfl ?_
    refine TO.nil ?_
    refine Fin.go ?_
    refine Tr.drop 0 ?_
    refine Tr.ret ?_
    refine Fin.retX1 rfl (RVal.cell 0 rfl rfl agg42 sz42 rfl (Pr.le_refl _)) ?_
    · unfold ofPlc plcOf; rw [if_neg (by omega), if_pos (by omega)]; exact Pr.le_refl _
   ·
    have q3 := Nrm.nrm h3
    refine Tr.reg0 ?_
    refine Ch.op rfl rfl (by decide) (ok_int rfl (vl rfl) (vl rfl) rfl) ?_
    refine Ch.op rfl rfl (by decide) (ok_assign rfl (vl rfl)) ?_
    refine Ch.nil ?_
    refine Fin.go ?_
    refine Tr.cond rfl (fun h4 => ?_) (fun h4 => ?_)
    ·
     have q4 := Nrm.nrm h4
     refine Tr.regT ?_
     refine TO.op rfl rfl (by decide) (ok_fieldAddr rfl fo42_8 (vl rfl) rfl) ?_
     refine TO.op rfl rfl (by decide) (ok_load1 rfl one3 (vl rfl)) ?_
     refine TO.op rfl rfl (by decide) (okp_fieldAddr rfl fo42_8 (vl rfl)) ?_
     refine TO.ef0 0 rfl rfl (ef_store rfl rfl (vl rfl) (VL.le (vl rfl) (one_cellsP _)) sz3 rfl (by exact Nat.le_of_ble_eq_true rfl) rfl) ?_
     refine TO.nil ?_
     refine Fin.block ?_
     refine Fin.go ?_
     refine Tr.weak [(2, _), (3, _)] ⟨⟨_, rfl, Pr.le_refl _⟩, ⟨_, rfl, Pr.le_refl _⟩, trivial⟩ ?_
     refine Tr.seq ?_
     refine Tr.reC 0 [int 0, str [], int 0, int 0, int 0, int f.kind, str f.subj, int 0, int 0, int f.num, str []] rfl ⟨Pr.le_refl _, Pr.le_refl _, Pr.le_refl _, Pr.le_refl _, Pr.le_refl _, Pr.le_refl _, Pr.le_refl _, Pr.le_refl _, Pr.le_refl _, Pr.le_refl _, Pr.le_refl _, trivial⟩ ?_
     refine Tr.regT ?_
     refine TO.rd 0 rfl rfl rfl (by decide) (rd_loadA rfl agg42 sz42 (vl rfl) rfl rfl) ?_
     refine TO.store_all 1 rfl rfl rfl (vl rfl) (VL.le (vl rfl) (agg_cellsP _)) rfl sz42 rfl rfl ?_
     refine TO.nil ?_
     refine Fin.go ?_
     refine Tr.drop 0 ?_
     refine Tr.ret ?_
     refine Fin.retX1 rfl (RVal.cell 0 rfl rfl agg42 sz42 rfl (Pr.le_refl _)) ?_
     · unfold ofPlc plcOf; rw [if_neg (by omega), if_pos (by omega)]; exact Pr.le_refl _
    ·
     have q4 := Nrm.nrm h4
     refine Tr.seq ?_
     refine Tr.reg0 ?_
     refine Ch.op rfl rfl (by decide) (ok_int rfl (vl rfl) (vl rfl) rfl) ?_
     refine Ch.op rfl rfl (by decide) (ok_assign rfl (vl rfl)) ?_
     refine Ch.nil ?_
     refine Fin.go ?_
     refine Tr.cond rfl (fun h5 => ?_) (fun h5 => ?_)
     ·
      have q5 := Nrm.nrm h5
      refine Tr.regT ?_
      refine TO.op rfl rfl (by decide) (ok_fieldAddr rfl fo42_9 (vl rfl) rfl) ?_
      refine TO.op rfl rfl (by decide) (ok_load1 rfl one9 (vl rfl)) ?_
      refine TO.op rfl rfl (by decide) (okp_fieldAddr rfl fo42_9 (vl rfl)) ?_
      refine TO.ef0 0 rfl rfl (ef_store rfl rfl (vl rfl) (VL.le (vl rfl) (one_cellsP _)) sz9 rfl (by exact Nat.le_of_ble_eq_true rfl) rfl) ?_
      refine TO.nil ?_
      refine Fin.block ?_
      refine Fin.go ?_
      refine Tr.weak [(2, _), (3, _)] ⟨⟨_, rfl, Pr.le_refl _⟩, ⟨_, rfl, Pr.le_refl _⟩, trivial⟩ ?_
      refine Tr.seq ?_
      refine Tr.reC 0 [int 0, str [], int 0, int 0, int 0, int f.kind, str f.subj, int 0, int 0, int 0, str f.text] rfl ⟨Pr.le_refl _, Pr.le_refl _, Pr.le_refl _, Pr.le_refl _, Pr.le_refl _, Pr.le_refl _, Pr.le_refl _, Pr.le_refl _, Pr.le_refl _, Pr.le_refl _, Pr.le_refl _, trivial⟩ ?_
      refine Tr.regT ?_
      refine TO.rd 0 rfl rfl rfl (by decide) (rd_loadA rfl agg42 sz42 (vl rfl) rfl rfl) ?_
      refine TO.store_all 1 rfl rfl rfl (vl rfl) (VL.le (vl rfl) (agg_cellsP _)) rfl sz42 rfl rfl ?_
      refine TO.nil ?_
      refine Fin.go ?_
      refine Tr.drop 0 ?_
      refine Tr.ret ?_
      refine Fin.retX1 rfl (RVal.cell 0 rfl rfl agg42 sz42 rfl (Pr.le_refl _)) ?_
      · unfold ofPlc plcOf; rw [if_neg (by omega), if_neg (by omega), if_pos (by omega)]; exact Pr.le_refl _
     ·
      have q5 := Nrm.nrm h5
      refine Tr.skip ?_
      refine Fin.block ?_
      refine Fin.go ?_
      refine Tr.seq ?_
      refine Tr.reC 0 [int 0, str [], int 0, int 0, int 0, int f.kind, str f.subj, int 0, int 0, int 0, str []] rfl ⟨Pr.le_refl _, Pr.le_refl _, Pr.le_refl _, Pr.le_refl _, Pr.le_refl _, Pr.le_refl _, Pr.le_refl _, Pr.le_refl _, Pr.le_refl _, Pr.le_refl _, Pr.le_refl _, trivial⟩ ?_
      refine Tr.regT ?_
      refine TO.rd 0 rfl rfl rfl (by decide) (rd_loadA rfl agg42 sz42 (vl rfl) rfl rfl) ?_
      refine TO.store_all 1 rfl rfl rfl (vl rfl) (VL.le (vl rfl) (agg_cellsP _)) rfl sz42 rfl rfl ?_
      refine TO.nil ?_
      refine Fin.go ?_
      refine Tr.drop 0 ?_
      refine Tr.weak [(2, _)] ⟨⟨_, rfl, Pr.le_refl _⟩, trivial⟩ ?_
      refine Tr.ret ?_
      refine Fin.retX1 rfl (RVal.cell 0 rfl rfl agg42 sz42 rfl (Pr.le_refl _)) ?_
      · unfold ofPlc plcOf; rw [if_neg (by omega), if_neg (by omega), if_neg (by omega)]; exact Pr.le_refl _
set_option maxRecDepth 20000 in
set_option maxHeartbeats 1000000 in
theorem w_AssetDecides {t : List Int} {a b : Int} (ha : 0 ≤ a ∧ a < 256) (hb : 0 ≤ b ∧ b < 256) : Fun Tryz.prog 3 [ints t, is (.int .u8 a), is (.int .u8 b)] (bool true) := by
 refine Fun.of Tryz.func3 rfl rfl (by exact Nat.le_of_ble_eq_true rfl) fun M0 w0 => ?_
 obtain ⟨ha0, ha9⟩ := ha
 obtain ⟨hb0, hb9⟩ := hb
 have ha1 : IntKind.i64.wrap (a.tmod 14) = a.tmod 14 := IntWalk.i64_in _ ⟨by have := Int.tmod_nonneg 14 ha0; omega, by have := Int.tmod_lt_of_pos a (show (0 : Int) < 14 by omega); omega⟩
 have ha2 := Int.tmod_nonneg 14 ha0
 have ha3 := Int.tmod_lt_of_pos a (show (0 : Int) < 14 by omega)
 have hb1 : IntKind.i64.wrap (b.tmod 9) = b.tmod 9 := IntWalk.i64_in _ ⟨by have := Int.tmod_nonneg 9 hb0; omega, by have := Int.tmod_lt_of_pos b (show (0 : Int) < 9 by omega); omega⟩
 have hb2 := Int.tmod_nonneg 9 hb0
 have hb3 := Int.tmod_lt_of_pos b (show (0 : Int) < 9 by omega)
 refine Tr.seq ?_
 refine Tr.reg0 ?_
 refine Ch.op rfl rfl (by decide) (ok_assign rfl (vl rfl)) ?_
 refine Ch.nil ?_
 refine Fin.go ?_
 refine Tr.seq ?_
 refine Tr.seq ?_
 refine Tr.reg0 ?_
 refine Ch.op rfl rfl (by decide) (ok_move rfl (vl rfl)) ?_
 refine Ch.op rfl rfl (by decide) (ok_call rfl (w_Light) ⟨⟨_, rfl, Pr.le_refl _⟩, trivial⟩) ?_
 refine Ch.op rfl rfl (by decide) (ok_not rfl (vl rfl)) ?_
 refine Ch.nil ?_
 refine Fin.go ?_
 refine Tr.cond rfl (fun h1 => ?_) (fun h1 => ?_)
 ·
  have q1 := Nrm.nrm h1
  refine Tr.seq ?_
  refine Tr.reg0 ?_
  refine Ch.op rfl rfl (by decide) (ok_call rfl (w_awake) trivial) ?_
  refine Ch.op rfl rfl (by decide) (ok_assign rfl (vl rfl)) ?_
  refine Ch.nil ?_
  refine Fin.go ?_
  refine Tr.ret ?_
  refine Fin.then_ret ?_
  refine Fin.ret1 rfl (OutW.bse _ _) rfl ?_
  · first | exact Pr.le_refl _ | (refine int_eq ?_; simp_all; done) | (refine bool_eq ?_; simp_all; done) | (refine bool_eq ?_; simp_all; omega) | (refine int_eq ?_; omega)
 ·
  have q1 := Nrm.nrm h1
  have ht4 : t.length ≤ 400 := by simpa using h1
  have ht9 : t.length ≤ 1000000000 := by omega
  refine Tr.skip ?_
  refine Fin.go ?_
  refine Tr.seq ?_
  refine Tr.regT ?_
  refine TO.op rfl rfl (by decide) (ok_move rfl (vl rfl)) ?_
  refine TO.pad ?_
  refine TO.efs 0 rfl rfl (by decide) (ef_call rfl rfl (by decide) rfl (w_Roll (l := t) ht9) ⟨⟨_, rfl, Pr.le_refl _⟩, trivial⟩) (fun v1 => ?_)
  refine TO.opn 23 0 _ rfl rfl (fun _ => rfl) (fun b1 => ?_)
  refine TO.op rfl rfl (by decide) (ok_assign rfl (vl rfl)) ?_
  refine TO.nil ?_
  refine Fin.go ?_
  refine Tr.seq ?_
  refine Tr.regT ?_
  refine TO.op rfl rfl (by decide) (ok_move rfl (vl rfl)) ?_
  refine TO.efc 0 rfl rfl (by decide) (ef_callc rfl rfl (by decide) rfl (w_Findings (m := 20) (by omega)) ⟨⟨_, rfl, Pr.le_refl _⟩, ⟨_, rfl, Pr.le_refl _⟩, trivial⟩) ?_
  refine TO.ex 25 rfl (fun z1 => TO.fact 25 rfl fun hz1 => ?_)
  refine TO.op rfl rfl (by decide) (ok_assign rfl (vl rfl)) ?_
  refine TO.nil ?_
  refine Fin.openD 0 rfl (fun s1 => ?_)
  refine Fin.go ?_
  refine Tr.seq ?_
  refine Tr.reg0 ?_
  refine Ch.op rfl rfl (by decide) (ok_move rfl (vl rfl)) ?_
  first
   | refine Ch.op rfl rfl (by decide) (ok_convI rfl Tryz.underlying5 Tryz.underlying3 (vl rfl) (by unfold InI; omega)) ?_
   | refine Ch.op rfl rfl (by decide) (ok_conv rfl Tryz.underlying5 Tryz.underlying3 (vl rfl)) ?_
  refine Ch.op rfl rfl (by decide) (ok_rem rfl (vl rfl) (vl rfl) (by omega)) ?_
  refine Ch.op rfl rfl (by decide) (ok_move rfl (vl rfl)) ?_
  first
   | refine Ch.op rfl rfl (by decide) (ok_convI rfl Tryz.underlying5 Tryz.underlying3 (vl rfl) (by unfold InI; omega)) ?_
   | refine Ch.op rfl rfl (by decide) (ok_conv rfl Tryz.underlying5 Tryz.underlying3 (vl rfl)) ?_
  refine Ch.op rfl rfl (by decide) (ok_rem rfl (vl rfl) (vl rfl) (by omega)) ?_
  refine Ch.op rfl rfl (by decide) (ok_assign rfl (vl rfl)) ?_
  refine Ch.op rfl rfl (by decide) (ok_assign rfl (vl rfl)) ?_
  refine Ch.nil ?_
  refine Fin.go ?_
  refine Tr.weak [(8, _), (9, _), (10, _)] ⟨⟨_, rfl, Pr.le_refl _⟩, ⟨_, rfl, Pr.le_refl _⟩, ⟨_, rfl, Pr.le_refl _⟩, trivial⟩ ?_
  refine Tr.seq ?_
  refine Tr.regT ?_
  refine TO.op rfl rfl (by decide) (ok_move rfl (vl rfl)) ?_
  refine TO.op rfl rfl (by decide) (ok_move rfl (vl rfl)) ?_
  refine TO.op rfl rfl (by decide) (ok_call rfl (w_entity (by have := hz1.len; omega)) ⟨⟨_, rfl, Pr.le_refl _⟩, trivial⟩) ?_
  refine TO.op rfl rfl (by decide) (ok_move rfl (vl rfl)) ?_
  refine TO.op rfl rfl (by decide) (ok_move rfl (vl rfl)) ?_
  refine TO.op rfl rfl (by decide) (ok_call rfl (w_FactsN hz1.norm hz1.fits ⟨by omega, by omega⟩ ⟨by omega, by omega⟩ (numsTo_asc _) (numsTo_in _) (by rw [numsTo_len]; have := hz1.len; omega)) ⟨⟨_, rfl, Pr.le_refl _⟩, ⟨_, rfl, Pr.le_refl _⟩, ⟨_, rfl, Pr.le_refl _⟩, ⟨_, rfl, Pr.le_refl _⟩, trivial⟩) ?_
  refine TO.ex 38 rfl (fun st => TO.fact 38 rfl fun hst => ?_)
  obtain ⟨hst, hso⟩ := hst
  have hsl : st.length ≤ 20 := by rw [hst.length_eq]; exact Nat.le_trans (List.length_filterMap_le _ _) (Nat.le_trans (dec_len ..) (by rw [numsTo_len]; exact hz1.len))
  refine TO.op rfl rfl (by decide) (ok_move rfl (vl rfl)) ?_
  refine TO.op rfl rfl (by decide) (ok_extract rfl (vl rfl) rfl) ?_
  refine TO.op rfl rfl (by decide) (ok_extract rfl (vl rfl) rfl) ?_
  refine TO.op rfl rfl (by decide) (ok_assign rfl (vl rfl)) ?_
  refine TO.op rfl rfl (by decide) (ok_assign rfl (vl rfl)) ?_
  refine TO.nil ?_
  refine Fin.go ?_
  refine Tr.weak [(8, _), (9, _), (10, _), (11, _), (12, _)] ⟨⟨_, rfl, Pr.le_refl _⟩, ⟨_, rfl, Pr.le_refl _⟩, ⟨_, rfl, Pr.le_refl _⟩, ⟨_, rfl, Pr.le_refl _⟩, ⟨_, rfl, Pr.le_refl _⟩, trivial⟩ ?_
  refine Tr.seq ?_
  refine Tr.seq ?_
  refine Tr.reg0 ?_
  refine Ch.op rfl rfl (by decide) (ok_move rfl (vl rfl)) ?_
  refine Ch.op rfl rfl (by decide) (ok_int rfl (vl rfl) (vl rfl) rfl) ?_
  refine Ch.nil ?_
  refine Fin.go ?_
  refine Tr.cond rfl (fun h2 => ?_) (fun h2 => ?_)
  ·
   have q2 := Nrm.nrm h2
   exfalso; omega
  ·
   have q2 := Nrm.nrm h2
   refine Tr.skip ?_
   refine Fin.go ?_
   refine Tr.seq ?_
   refine Tr.seq ?_
   refine Tr.reg0 ?_
   refine Ch.op rfl rfl (by decide) (ok_assign rfl (vl rfl)) ?_
   refine Ch.nil ?_
   refine Fin.go ?_
   refine Tr.block ?_
   refine Tr.loopw [(8, _), (9, _), (10, _), (11, _)] ⟨⟨_, rfl, Pr.le_refl _⟩, ⟨_, rfl, Pr.le_refl _⟩, ⟨_, rfl, Pr.le_refl _⟩, ⟨_, rfl, Pr.le_refl _⟩, trivial⟩ (fun k : Nat => [(13, int ((k : Nat) : Int))]) (fun k : Nat => k ≤ (st).length) (fun k : Nat => (st).length - k) 0 (Nat.zero_le _) ⟨⟨_, rfl, Pr.le_refl _⟩, trivial⟩ ?_
   rintro k hle_k
   refine Tr.seq ?_
   refine Tr.seq ?_
   refine Tr.reg0 ?_
   refine Ch.op rfl rfl (by decide) (ok_move rfl (vl rfl)) ?_
   refine Ch.op rfl rfl (by decide) (ok_move rfl (vl rfl)) ?_
   first
    | refine Ch.op rfl rfl (by decide) (ok_lenm rfl Tryz.underlying29 (vl rfl)) ?_
    | refine Ch.op rfl rfl (by decide) (ok_len rfl Tryz.underlying29 (vl rfl)) ?_
   refine Ch.op rfl rfl (by decide) (ok_int rfl (vl rfl) (vl rfl) rfl) ?_
   refine Ch.nil ?_
   refine Fin.go ?_
   refine Tr.cond rfl (fun h3 => ?_) (fun h3 => ?_)
   ·
    have q3 := Nrm.nrm h3
    have hk_k : k < (st).length := lt_of_dec h3
    obtain ⟨x, hx_k⟩ := at_ hk_k
    obtain ⟨f, hfo, hlf, hk8, hint, hxe, hmm, hbest⟩ := fact_of (numsTo_in _) (asc_pw_le (numsTo_asc _)) (hst.mem_iff.1 (List.mem_of_getElem? hx_k))
    have hfr := numsTo_in _ _ hfo
    have e1 : x.kind = f.kind := by rw [hxe]
    have e2 : x.subj = f.subj := by rw [hxe]
    have e3 : x.alg = f.alg := by rw [hxe]
    have e4 : x.bits = f.bits := by rw [hxe]
    have e5 : x.num = f.num := by rw [hxe]
    have e6 : x.text = f.text := by rw [hxe]
    have hzl := hz1.len
    unfold InT at hint
    refine Tr.skip ?_
    refine Fin.go ?_
    refine Tr.seq ?_
    refine Tr.block ?_
    refine Tr.seq ?_
    refine Tr.reg0 ?_
    refine Ch.op rfl rfl (by decide) (ok_move rfl (vl rfl)) ?_
    refine Ch.op rfl rfl (by decide) (ok_move rfl (vl rfl)) ?_
    refine Ch.op rfl rfl (by decide) (ok_indexAddr rfl Tryz.underlying29 sz40 (vl rfl) (vl rfl) (by omega) (row_at hx_k)) ?_
    refine Ch.op rfl rfl (by decide) (ok_fieldAddr rfl fo40_6 (vl rfl) rfl) ?_
    refine Ch.op rfl rfl (by decide) (ok_load1 rfl one3 (vl rfl)) ?_
    refine Ch.op rfl rfl (by decide) (ok_assign rfl (vl rfl)) ?_
    refine Ch.nil ?_
    refine Fin.go ?_
    refine Tr.weak [(8, _), (9, _), (10, _), (11, _), (13, _), (14, _)] ⟨⟨_, rfl, Pr.le_refl _⟩, ⟨_, rfl, Pr.le_refl _⟩, ⟨_, rfl, Pr.le_refl _⟩, ⟨_, rfl, Pr.le_refl _⟩, ⟨_, rfl, Pr.le_refl _⟩, ⟨_, rfl, Pr.le_refl _⟩, trivial⟩ ?_
    refine Tr.seq ?_
    refine Tr.seq ?_
    refine Tr.reg0 ?_
    refine Ch.op rfl rfl (by decide) (ok_move rfl (vl rfl)) ?_
    refine Ch.op rfl rfl (by decide) (ok_int rfl (vl rfl) (vl rfl) rfl) ?_
    refine Ch.op rfl rfl (by decide) (ok_move rfl (vl rfl)) ?_
    refine Ch.cases 56 rfl (fun h4 => ?_) (fun h4 => ?_)
    ·
     have q4 := Nrm.nrm h4
     exfalso; omega
    ·
     have q4 := Nrm.nrm h4
     refine Ch.yes rfl rfl rfl h4 rfl (by decide) (ok_move rfl (vl rfl)) ?_
     refine Ch.yes rfl rfl rfl h4 rfl (by decide) (ok_move rfl (vl rfl)) ?_
     first
      | refine Ch.yes rfl rfl rfl h4 rfl (by decide) (ok_lenm rfl Tryz.underlying27 (vl rfl)) ?_
      | refine Ch.yes rfl rfl rfl h4 rfl (by decide) (ok_len rfl Tryz.underlying27 (vl rfl)) ?_
     refine Ch.yes rfl rfl rfl h4 rfl (by decide) (ok_int rfl (vl rfl) (vl rfl) rfl) ?_
     refine Ch.op rfl rfl (by decide) (ok_pick_f rfl (vl rfl) h4 (vl rfl)) ?_
     refine Ch.nil ?_
     refine Fin.go ?_
     refine Tr.weak [(8, _), (9, _), (10, _), (11, _), (13, _), (14, _), (61, _)] ⟨⟨_, rfl, Pr.le_refl _⟩, ⟨_, rfl, Pr.le_refl _⟩, ⟨_, rfl, Pr.le_refl _⟩, ⟨_, rfl, Pr.le_refl _⟩, ⟨_, rfl, Pr.le_refl _⟩, ⟨_, rfl, Pr.le_refl _⟩, ⟨_, rfl, Pr.le_refl _⟩, trivial⟩ ?_
     refine Tr.cond rfl (fun h5 => ?_) (fun h5 => ?_)
     ·
      have q5 := Nrm.nrm h5
      exfalso; omega
     ·
      have q5 := Nrm.nrm h5
      refine Tr.skip ?_
      refine Fin.go ?_
      refine Tr.seq ?_
      refine Tr.regT ?_
      refine TO.op rfl rfl (by decide) (ok_move rfl (vl rfl)) ?_
      refine TO.op rfl rfl (by decide) (ok_move rfl (vl rfl)) ?_
      refine TO.op rfl rfl (by decide) (ok_indexAddr rfl Tryz.underlying27 sz42 (vl rfl) (vl rfl) (by omega) (row_atI hlf)) ?_
      refine TO.op rfl rfl (by decide) (ok_loadA rfl agg42 sz42 (vl rfl) rfl rfl) ?_
      refine TO.alloc rfl rfl (by decide) rfl z42 zo42 (fun b2 => ?_)
      refine TO.store_all 0 rfl rfl rfl (vl rfl) (VL.le (vl rfl) (agg_cellsP _)) rfl sz42 rfl rfl ?_
      refine TO.freeze 0 15 rfl rfl ?_
      refine TO.nil ?_
      refine Fin.go ?_
      refine Tr.weak [(8, _), (9, _), (10, _), (11, _), (13, _), (15, _)] ⟨⟨_, rfl, Pr.le_refl _⟩, ⟨_, rfl, Pr.le_refl _⟩, ⟨_, rfl, Pr.le_refl _⟩, ⟨_, rfl, Pr.le_refl _⟩, ⟨_, rfl, Pr.le_refl _⟩, ⟨_, rfl, Pr.le_refl _⟩, trivial⟩ ?_
      refine Tr.seq ?_
      refine Tr.seq ?_
      refine Tr.reg1 mixed (by kernel_rfl) ?_
      refine Ch.op rfl rfl (by decide) (ok_fieldAddr rfl fo42_5 (vl rfl) rfl) ?_
      refine Ch.op rfl rfl (by decide) (ok_load1 rfl one3 (vl rfl)) ?_
      refine Ch.op rfl rfl (by decide) (ok_int rfl (vl rfl) (vl rfl) rfl) ?_
      refine Ch.op rfl rfl (by decide) (ok_move rfl (vl rfl)) ?_
      refine Ch.cases 69 rfl (fun h6 => ?_) (fun h6 => ?_)
      ·
       have q6 := Nrm.nrm h6
       exfalso; omega
      ·
       have q6 := Nrm.nrm h6
       refine Ch.yes rfl rfl rfl h6 rfl (by decide) (ok_fieldAddr rfl fo42_5 (vl rfl) rfl) ?_
       refine Ch.yes rfl rfl rfl h6 rfl (by decide) (ok_load1 rfl one3 (vl rfl)) ?_
       refine Ch.yes rfl rfl rfl h6 rfl (by decide) (ok_move rfl (vl rfl)) ?_
       refine Ch.yes rfl rfl rfl h6 rfl (by decide) (ok_move rfl (vl rfl)) ?_
       refine Ch.yes rfl rfl rfl h6 rfl (by decide) (ok_indexAddr rfl Tryz.underlying29 sz40 (vl rfl) (vl rfl) (by omega) (row_at hx_k)) ?_
       refine Ch.yes rfl rfl rfl h6 rfl (by decide) (ok_fieldAddr rfl fo40_2 (vl rfl) rfl) ?_
       refine Ch.yes rfl rfl rfl h6 rfl (by decide) (ok_load1 rfl one3 (vl rfl)) ?_
       refine Ch.yes rfl rfl rfl h6 rfl (by decide) (ok_int rfl (vl rfl) (vl rfl) rfl) ?_
       refine Ch.op rfl rfl (by decide) (ok_pick_f rfl (vl rfl) h6 (vl rfl)) ?_
       refine Ch.op rfl rfl (by decide) (ok_move rfl (vl rfl)) ?_
       refine Ch.cases 79 rfl (fun h7 => ?_) (fun h7 => ?_)
       ·
        have q7 := Nrm.nrm h7
        exfalso; simp [e1] at h7
       ·
        have q7 := Nrm.nrm h7
        refine Ch.yes rfl rfl rfl h7 rfl (by decide) (ok_fieldAddr rfl fo42_6 (vl rfl) rfl) ?_
        refine Ch.yes rfl rfl rfl h7 rfl (by decide) (ok_load1 rfl one9 (vl rfl)) ?_
        refine Ch.yes rfl rfl rfl h7 rfl (by decide) (ok_move rfl (vl rfl)) ?_
        refine Ch.yes rfl rfl rfl h7 rfl (by decide) (ok_move rfl (vl rfl)) ?_
        refine Ch.yes rfl rfl rfl h7 rfl (by decide) (ok_indexAddr rfl Tryz.underlying29 sz40 (vl rfl) (vl rfl) (by omega) (row_at hx_k)) ?_
        refine Ch.yes rfl rfl rfl h7 rfl (by decide) (ok_fieldAddr rfl fo40_1 (vl rfl) rfl) ?_
        refine Ch.yes rfl rfl rfl h7 rfl (by decide) (ok_load1 rfl one9 (vl rfl)) ?_
        refine Ch.yes rfl rfl rfl h7 rfl (by decide) (ok_nes rfl (vl rfl) (vl rfl)) ?_
        refine Ch.op rfl rfl (by decide) (ok_pick_f rfl (vl rfl) h7 (vl rfl)) ?_
        refine Ch.op rfl rfl (by decide) (ok_move rfl (vl rfl)) ?_
        refine Ch.cases 89 rfl (fun h8 => ?_) (fun h8 => ?_)
        ·
         have q8 := Nrm.nrm h8
         exfalso; simp [e2] at h8
        ·
         have q8 := Nrm.nrm h8
         refine Ch.yes rfl rfl rfl h8 rfl (by decide) (ok_fieldAddr rfl fo42_7 (vl rfl) rfl) ?_
         refine Ch.yes rfl rfl rfl h8 rfl (by decide) (ok_loadA rfl agg38 sz38 (vl rfl) rfl rfl) ?_
         refine Ch.yes rfl rfl rfl h8 rfl (by decide) (ok_move rfl (vl rfl)) ?_
         refine Ch.yes rfl rfl rfl h8 rfl (by decide) (ok_move rfl (vl rfl)) ?_
         refine Ch.yes rfl rfl rfl h8 rfl (by decide) (ok_indexAddr rfl Tryz.underlying29 sz40 (vl rfl) (vl rfl) (by omega) (row_at hx_k)) ?_
         refine Ch.yes rfl rfl rfl h8 rfl (by decide) (ok_fieldAddr rfl fo40_3 (vl rfl) rfl) ?_
         refine Ch.yes rfl rfl rfl h8 rfl (by decide) (ok_loadA rfl agg38 sz38 (vl rfl) rfl rfl) ?_
         refine Ch.yes rfl rfl rfl h8 rfl (by decide) (ok_ne38 rfl (vl rfl) (vl rfl)) ?_
         refine Ch.op rfl rfl (by decide) (ok_pick_f rfl (vl rfl) h8 (vl rfl)) ?_
         refine Ch.op rfl rfl (by decide) (ok_move rfl (vl rfl)) ?_
         refine Ch.cases 99 rfl (fun h9 => ?_) (fun h9 => ?_)
         ·
          have q9 := Nrm.nrm h9
          exfalso; simp [e3, e4] at h9
         ·
          have q9 := Nrm.nrm h9
          refine Ch.yes rfl rfl rfl h9 rfl (by decide) (ok_fieldAddr rfl fo42_8 (vl rfl) rfl) ?_
          refine Ch.yes rfl rfl rfl h9 rfl (by decide) (ok_load1 rfl one3 (vl rfl)) ?_
          refine Ch.yes rfl rfl rfl h9 rfl (by decide) (ok_move rfl (vl rfl)) ?_
          refine Ch.yes rfl rfl rfl h9 rfl (by decide) (ok_move rfl (vl rfl)) ?_
          refine Ch.yes rfl rfl rfl h9 rfl (by decide) (ok_indexAddr rfl Tryz.underlying29 sz40 (vl rfl) (vl rfl) (by omega) (row_at hx_k)) ?_
          refine Ch.yes rfl rfl rfl h9 rfl (by decide) (ok_fieldAddr rfl fo40_4 (vl rfl) rfl) ?_
          refine Ch.yes rfl rfl rfl h9 rfl (by decide) (ok_load1 rfl one3 (vl rfl)) ?_
          refine Ch.yes rfl rfl rfl h9 rfl (by decide) (ok_int rfl (vl rfl) (vl rfl) rfl) ?_
          refine Ch.op rfl rfl (by decide) (ok_pick_f rfl (vl rfl) h9 (vl rfl)) ?_
          refine Ch.op rfl rfl (by decide) (ok_move rfl (vl rfl)) ?_
          refine Ch.cases 109 rfl (fun h10 => ?_) (fun h10 => ?_)
          ·
           have q10 := Nrm.nrm h10
           exfalso; simp [e5] at h10
          ·
           have q10 := Nrm.nrm h10
           refine Ch.yes rfl rfl rfl h10 rfl (by decide) (ok_fieldAddr rfl fo42_9 (vl rfl) rfl) ?_
           refine Ch.yes rfl rfl rfl h10 rfl (by decide) (ok_load1 rfl one9 (vl rfl)) ?_
           refine Ch.yes rfl rfl rfl h10 rfl (by decide) (ok_move rfl (vl rfl)) ?_
           refine Ch.yes rfl rfl rfl h10 rfl (by decide) (ok_move rfl (vl rfl)) ?_
           refine Ch.yes rfl rfl rfl h10 rfl (by decide) (ok_indexAddr rfl Tryz.underlying29 sz40 (vl rfl) (vl rfl) (by omega) (row_at hx_k)) ?_
           refine Ch.yes rfl rfl rfl h10 rfl (by decide) (ok_fieldAddr rfl fo40_5 (vl rfl) rfl) ?_
           refine Ch.yes rfl rfl rfl h10 rfl (by decide) (ok_load1 rfl one9 (vl rfl)) ?_
           refine Ch.yes rfl rfl rfl h10 rfl (by decide) (ok_nes rfl (vl rfl) (vl rfl)) ?_
           refine Ch.op rfl rfl (by decide) (ok_pick_f rfl (vl rfl) h10 (vl rfl)) ?_
           refine Ch.op rfl rfl (by decide) (ok_move rfl (vl rfl)) ?_
           refine Ch.cases 119 rfl (fun h11 => ?_) (fun h11 => ?_)
           ·
            have q11 := Nrm.nrm h11
            exfalso; simp [e6] at h11
           ·
            have q11 := Nrm.nrm h11
            refine Ch.yes rfl rfl rfl h11 rfl (by decide) (ok_fieldAddr rfl fo42_3 (vl rfl) rfl) ?_
            refine Ch.yes rfl rfl rfl h11 rfl (by decide) (ok_load1 rfl one3 (vl rfl)) ?_
            refine Ch.yes rfl rfl rfl h11 rfl (by decide) (ok_move rfl (vl rfl)) ?_
            refine Ch.yes rfl rfl rfl h11 rfl (by decide) (ok_int rfl (vl rfl) (vl rfl) rfl) ?_
            refine Ch.op rfl rfl (by decide) (ok_pick_f rfl (vl rfl) h11 (vl rfl)) ?_
            refine Ch.op rfl rfl (by decide) (ok_move rfl (vl rfl)) ?_
            refine Ch.cases 125 rfl (fun h12 => ?_) (fun h12 => ?_)
            ·
             have q12 := Nrm.nrm h12
             exfalso; omega
            ·
             have q12 := Nrm.nrm h12
             refine Ch.yes rfl rfl rfl h12 rfl (by decide) (ok_fieldAddr rfl fo42_3 (vl rfl) rfl) ?_
             refine Ch.yes rfl rfl rfl h12 rfl (by decide) (ok_load1 rfl one3 (vl rfl)) ?_
             refine Ch.yes rfl rfl rfl h12 rfl (by decide) (ok_move rfl (vl rfl)) ?_
             refine Ch.yes rfl rfl rfl h12 rfl (by decide) (ok_move rfl (vl rfl)) ?_
             first
              | (refine Ch.yes rfl rfl rfl h12 rfl (by decide) (ok_sub rfl (vl rfl) (vl rfl) ?hin) ?_; case hin => unfold InI; omega)
              | refine Ch.yes rfl rfl rfl h12 rfl (by decide) (ok_int rfl (vl rfl) (vl rfl) rfl) ?_
             refine Ch.yes rfl rfl rfl h12 rfl (by decide) (ok_int rfl (vl rfl) (vl rfl) rfl) ?_
             refine Ch.op rfl rfl (by decide) (ok_pick_f rfl (vl rfl) h12 (vl rfl)) ?_
             refine Ch.nil ?_
             refine Fin.go ?_
             refine Tr.weak [(8, _), (9, _), (10, _), (11, _), (13, _), (15, _), (132, _)] ⟨⟨_, rfl, Pr.le_refl _⟩, ⟨_, rfl, Pr.le_refl _⟩, ⟨_, rfl, Pr.le_refl _⟩, ⟨_, rfl, Pr.le_refl _⟩, ⟨_, rfl, Pr.le_refl _⟩, ⟨_, rfl, Pr.le_refl _⟩, ⟨_, rfl, Pr.le_refl _⟩, trivial⟩ ?_
             refine Tr.cond rfl (fun h13 => ?_) (fun h13 => ?_)
             ·
              have q13 := Nrm.nrm h13
              exfalso; omega
             ·
              have q13 := Nrm.nrm h13
              refine Tr.skip ?_
              refine Fin.go ?_
              refine Tr.seq ?_
              refine Tr.reg0 ?_
              refine Ch.op rfl rfl (by decide) (ok_assign rfl (vl rfl)) ?_
              refine Ch.nil ?_
              refine Fin.go ?_
              refine Tr.block ?_
              refine Tr.loopw [(8, _), (9, _), (10, _), (11, _), (13, _), (15, _)] ⟨⟨_, rfl, Pr.le_refl _⟩, ⟨_, rfl, Pr.le_refl _⟩, ⟨_, rfl, Pr.le_refl _⟩, ⟨_, rfl, Pr.le_refl _⟩, ⟨_, rfl, Pr.le_refl _⟩, ⟨_, rfl, Pr.le_refl _⟩, trivial⟩ (fun m : Nat => [(16, int ((m : Nat) : Int))]) (fun m : Nat => m ≤ (z1).length) (fun m : Nat => (z1).length - m) 0 (Nat.zero_le _) ⟨⟨_, rfl, Pr.le_refl _⟩, trivial⟩ ?_
              rintro m hle_m
              refine Tr.seq ?_
              refine Tr.seq ?_
              refine Tr.reg0 ?_
              refine Ch.op rfl rfl (by decide) (ok_move rfl (vl rfl)) ?_
              refine Ch.op rfl rfl (by decide) (ok_move rfl (vl rfl)) ?_
              first
               | refine Ch.op rfl rfl (by decide) (ok_lenm rfl Tryz.underlying27 (vl rfl)) ?_
               | refine Ch.op rfl rfl (by decide) (ok_len rfl Tryz.underlying27 (vl rfl)) ?_
              refine Ch.op rfl rfl (by decide) (ok_int rfl (vl rfl) (vl rfl) rfl) ?_
              refine Ch.nil ?_
              refine Fin.go ?_
              refine Tr.cond rfl (fun h14 => ?_) (fun h14 => ?_)
              ·
               have q14 := Nrm.nrm h14
               have hk_m : m < (z1).length := lt_of_dec h14
               obtain ⟨y, hx_m⟩ := at_ hk_m
               refine Tr.skip ?_
               refine Fin.go ?_
               refine Tr.seq ?_
               refine Tr.block ?_
               refine Tr.seq ?_
               refine Tr.regT ?_
               refine TO.op rfl rfl (by decide) (ok_move rfl (vl rfl)) ?_
               refine TO.op rfl rfl (by decide) (ok_move rfl (vl rfl)) ?_
               refine TO.op rfl rfl (by decide) (ok_indexAddr rfl Tryz.underlying27 sz42 (vl rfl) (vl rfl) (by omega) (row_at hx_m)) ?_
               refine TO.op rfl rfl (by decide) (ok_loadA rfl agg42 sz42 (vl rfl) rfl rfl) ?_
               refine TO.alloc rfl rfl (by decide) rfl z42 zo42 (fun b3 => ?_)
               refine TO.store_all 0 rfl rfl rfl (vl rfl) (VL.le (vl rfl) (agg_cellsP _)) rfl sz42 rfl rfl ?_
               refine TO.freeze 0 17 rfl rfl ?_
               refine TO.nil ?_
               refine Fin.go ?_
               refine Tr.weak [(8, _), (9, _), (10, _), (11, _), (13, _), (15, _), (16, _), (17, _)] ⟨⟨_, rfl, Pr.le_refl _⟩, ⟨_, rfl, Pr.le_refl _⟩, ⟨_, rfl, Pr.le_refl _⟩, ⟨_, rfl, Pr.le_refl _⟩, ⟨_, rfl, Pr.le_refl _⟩, ⟨_, rfl, Pr.le_refl _⟩, ⟨_, rfl, Pr.le_refl _⟩, ⟨_, rfl, Pr.le_refl _⟩, trivial⟩ ?_
               refine Tr.seq ?_
               refine Tr.reg1 mixed (by kernel_rfl) ?_
               refine Ch.op rfl rfl (by decide) (ok_fieldAddr rfl fo42_3 (vl rfl) rfl) ?_
               refine Ch.op rfl rfl (by decide) (ok_load1 rfl one3 (vl rfl)) ?_
               refine Ch.op rfl rfl (by decide) (ok_move rfl (vl rfl)) ?_
               refine Ch.op rfl rfl (by decide) (ok_int rfl (vl rfl) (vl rfl) rfl) ?_
               refine Ch.op rfl rfl (by decide) (ok_move rfl (vl rfl)) ?_
               refine Ch.cases 147 rfl (fun h15 => ?_) (fun h15 => ?_)
               ·
                have q15 := Nrm.nrm h15
                refine Ch.yes rfl rfl rfl h15 rfl (by decide) (ok_loadA rfl agg42 sz42 (vl rfl) rfl rfl) ?_
                refine Ch.yes rfl rfl rfl h15 rfl (by decide) (ok_call rfl (w_RPlace) ⟨⟨_, rfl, Pr.le_refl _⟩, trivial⟩) ?_
                refine Ch.yes rfl rfl rfl h15 rfl (by decide) (ok_loadA rfl agg42 sz42 (vl rfl) rfl rfl) ?_
                refine Ch.yes rfl rfl rfl h15 rfl (by decide) (ok_call rfl (w_RPlace) ⟨⟨_, rfl, Pr.le_refl _⟩, trivial⟩) ?_
                refine Ch.yes rfl rfl rfl h15 rfl (by decide) (ok_eq42 rfl (vl rfl) (vl rfl)) ?_
                refine Ch.op rfl rfl (by decide) (ok_pick_t rfl (vl rfl) h15 (vl rfl)) ?_
                refine Ch.op rfl rfl (by decide) (ok_move rfl (vl rfl)) ?_
                refine Ch.cases 154 rfl (fun h16 => ?_) (fun h16 => ?_)
                ·
                 have q16 := Nrm.nrm h16
                 have hpl : plcOf y = plcOf f := ofPlc_inj (fnd_of (of_decide_eq_true h16))
                 refine Ch.yes rfl rfl rfl h16 rfl (by decide) (ok_fieldAddr rfl fo42_3 (vl rfl) rfl) ?_
                 refine Ch.yes rfl rfl rfl h16 rfl (by decide) (ok_load1 rfl one3 (vl rfl)) ?_
                 refine Ch.yes rfl rfl rfl h16 rfl (by decide) (ok_fieldAddr rfl fo42_3 (vl rfl) rfl) ?_
                 refine Ch.yes rfl rfl rfl h16 rfl (by decide) (ok_load1 rfl one3 (vl rfl)) ?_
                 refine Ch.yes rfl rfl rfl h16 rfl (by decide) (ok_int rfl (vl rfl) (vl rfl) rfl) ?_
                 refine Ch.yes rfl rfl rfl h16 rfl (by decide) (ok_move rfl (vl rfl)) ?_
                 refine Ch.cases 160 rfl (fun h17 => ?_) (fun h17 => ?_)
                 ·
                  have q17 := Nrm.nrm h17
                  exfalso
                  have hin : InT (a.tmod 14) (b.tmod 9) y := by unfold InT at *; omega
                  exact ((hbest _ (mem_numsTo hk_m) y (by rw [Int.toNat_natCast]; exact hx_m) hin hpl).1) (by unfold better; omega)
                 ·
                  have q17 := Nrm.nrm h17
                  refine Ch.yes rfl rfl rfl h17 rfl (by decide) (ok_fieldAddr rfl fo42_3 (vl rfl) rfl) ?_
                  refine Ch.yes rfl rfl rfl h17 rfl (by decide) (ok_load1 rfl one3 (vl rfl)) ?_
                  refine Ch.yes rfl rfl rfl h17 rfl (by decide) (ok_fieldAddr rfl fo42_3 (vl rfl) rfl) ?_
                  refine Ch.yes rfl rfl rfl h17 rfl (by decide) (ok_load1 rfl one3 (vl rfl)) ?_
                  refine Ch.yes rfl rfl rfl h17 rfl (by decide) (ok_int rfl (vl rfl) (vl rfl) rfl) ?_
                  refine Ch.yes rfl rfl rfl h17 rfl (by decide) (ok_move rfl (vl rfl)) ?_
                  refine Ch.cases 166 rfl (fun h18 => ?_) (fun h18 => ?_)
                  ·
                   have q18 := Nrm.nrm h18
                   refine Ch.yes rfl rfl rfl h18 rfl (by decide) (ok_fieldAddr rfl fo42_4 (vl rfl) rfl) ?_
                   refine Ch.yes rfl rfl rfl h18 rfl (by decide) (ok_load1 rfl one3 (vl rfl)) ?_
                   refine Ch.yes rfl rfl rfl h18 rfl (by decide) (ok_fieldAddr rfl fo42_4 (vl rfl) rfl) ?_
                   refine Ch.yes rfl rfl rfl h18 rfl (by decide) (ok_load1 rfl one3 (vl rfl)) ?_
                   refine Ch.yes rfl rfl rfl h18 rfl (by decide) (ok_int rfl (vl rfl) (vl rfl) rfl) ?_
                   refine Ch.yes rfl rfl rfl h17 rfl (by decide) (ok_pick_t rfl (vl rfl) h18 (vl rfl)) ?_
                   refine Ch.yes rfl rfl rfl h16 rfl (by decide) (ok_pick_f rfl (vl rfl) h17 (vl rfl)) ?_
                   refine Ch.op rfl rfl (by decide) (ok_pick_t rfl (vl rfl) h16 (vl rfl)) ?_
                   refine Ch.nil ?_
                   refine Fin.go ?_
                   refine Tr.weak [(8, _), (9, _), (10, _), (11, _), (13, _), (15, _), (16, _), (174, _)] ⟨⟨_, rfl, Pr.le_refl _⟩, ⟨_, rfl, Pr.le_refl _⟩, ⟨_, rfl, Pr.le_refl _⟩, ⟨_, rfl, Pr.le_refl _⟩, ⟨_, rfl, Pr.le_refl _⟩, ⟨_, rfl, Pr.le_refl _⟩, ⟨_, rfl, Pr.le_refl _⟩, ⟨_, rfl, Pr.le_refl _⟩, trivial⟩ ?_
                   refine Tr.cond rfl (fun h19 => ?_) (fun h19 => ?_)
                   ·
                    have q19 := Nrm.nrm h19
                    exfalso
                    have hin : InT (a.tmod 14) (b.tmod 9) y := by unfold InT at *; omega
                    exact ((hbest _ (mem_numsTo hk_m) y (by rw [Int.toNat_natCast]; exact hx_m) hin hpl).1) (by unfold better; omega)
                   ·
                    have q19 := Nrm.nrm h19
                    refine Tr.skip ?_
                    refine Fin.block ?_
                    refine Fin.go ?_
                    refine Tr.reg0 ?_
                    refine Ch.op rfl rfl (by decide) (ok_move rfl (vl rfl)) ?_
                    first
                     | (refine Ch.op rfl rfl (by decide) (ok_add rfl (vl rfl) (vl rfl) ?hin) ?_; case hin => unfold InI; omega)
                     | refine Ch.op rfl rfl (by decide) (ok_int rfl (vl rfl) (vl rfl) rfl) ?_
                    refine Ch.op rfl rfl (by decide) (ok_assign rfl (vl rfl)) ?_
                    refine Ch.nil ?_
                    exact Fin.fam_same (m + 1) ⟨hk_m, by omega⟩ ⟨⟨_, rfl, int_succ m⟩, ⟨_, rfl, Pr.le_refl _⟩, ⟨_, rfl, Pr.le_refl _⟩, ⟨_, rfl, Pr.le_refl _⟩, ⟨_, rfl, Pr.le_refl _⟩, ⟨_, rfl, Pr.le_refl _⟩, ⟨_, rfl, Pr.le_refl _⟩, trivial⟩
                  ·
                   have q18 := Nrm.nrm h18
                   refine Ch.no rfl rfl rfl (ne_true h18) rfl (by decide) ?_
                   refine Ch.no rfl rfl rfl (ne_true h18) rfl (by decide) ?_
                   refine Ch.no rfl rfl rfl (ne_true h18) rfl (by decide) ?_
                   refine Ch.no rfl rfl rfl (ne_true h18) rfl (by decide) ?_
                   refine Ch.no rfl rfl rfl (ne_true h18) rfl (by decide) ?_
                   refine Ch.yes rfl rfl rfl h17 rfl (by decide) (ok_pick_f rfl (vl rfl) h18 (vl rfl)) ?_
                   refine Ch.yes rfl rfl rfl h16 rfl (by decide) (ok_pick_f rfl (vl rfl) h17 (vl rfl)) ?_
                   refine Ch.op rfl rfl (by decide) (ok_pick_t rfl (vl rfl) h16 (vl rfl)) ?_
                   refine Ch.nil ?_
                   refine Fin.go ?_
                   refine Tr.weak [(8, _), (9, _), (10, _), (11, _), (13, _), (15, _), (16, _), (174, _)] ⟨⟨_, rfl, Pr.le_refl _⟩, ⟨_, rfl, Pr.le_refl _⟩, ⟨_, rfl, Pr.le_refl _⟩, ⟨_, rfl, Pr.le_refl _⟩, ⟨_, rfl, Pr.le_refl _⟩, ⟨_, rfl, Pr.le_refl _⟩, ⟨_, rfl, Pr.le_refl _⟩, ⟨_, rfl, Pr.le_refl _⟩, trivial⟩ ?_
                   refine Tr.cond rfl (fun h => nomatch h) (fun _ => ?_)
                   refine Tr.skip ?_
                   refine Fin.block ?_
                   refine Fin.go ?_
                   refine Tr.reg0 ?_
                   refine Ch.op rfl rfl (by decide) (ok_move rfl (vl rfl)) ?_
                   first
                    | (refine Ch.op rfl rfl (by decide) (ok_add rfl (vl rfl) (vl rfl) ?hin) ?_; case hin => unfold InI; omega)
                    | refine Ch.op rfl rfl (by decide) (ok_int rfl (vl rfl) (vl rfl) rfl) ?_
                   refine Ch.op rfl rfl (by decide) (ok_assign rfl (vl rfl)) ?_
                   refine Ch.nil ?_
                   exact Fin.fam_same (m + 1) ⟨hk_m, by omega⟩ ⟨⟨_, rfl, int_succ m⟩, ⟨_, rfl, Pr.le_refl _⟩, ⟨_, rfl, Pr.le_refl _⟩, ⟨_, rfl, Pr.le_refl _⟩, ⟨_, rfl, Pr.le_refl _⟩, ⟨_, rfl, Pr.le_refl _⟩, ⟨_, rfl, Pr.le_refl _⟩, trivial⟩
                ·
                 have q16 := Nrm.nrm h16
                 refine Ch.no rfl rfl rfl (ne_true h16) rfl (by decide) ?_
                 refine Ch.no rfl rfl rfl (ne_true h16) rfl (by decide) ?_
                 refine Ch.no rfl rfl rfl (ne_true h16) rfl (by decide) ?_
                 refine Ch.no rfl rfl rfl (ne_true h16) rfl (by decide) ?_
                 refine Ch.no rfl rfl rfl (ne_true h16) rfl (by decide) ?_
                 refine Ch.no rfl rfl rfl (ne_true h16) rfl (by decide) ?_
                 refine Ch.un rfl rfl rfl rfl (by decide) ?_
                 refine Ch.un rfl rfl rfl rfl (by decide) ?_
                 refine Ch.un rfl rfl rfl rfl (by decide) ?_
                 refine Ch.un rfl rfl rfl rfl (by decide) ?_
                 refine Ch.un rfl rfl rfl rfl (by decide) ?_
                 refine Ch.un rfl rfl rfl rfl (by decide) ?_
                 refine Ch.un rfl rfl rfl rfl (by decide) ?_
                 refine Ch.un rfl rfl rfl rfl (by decide) ?_
                 refine Ch.un rfl rfl rfl rfl (by decide) ?_
                 refine Ch.un rfl rfl rfl rfl (by decide) ?_
                 refine Ch.un rfl rfl rfl rfl (by decide) ?_
                 refine Ch.un rfl rfl rfl rfl (by decide) ?_
                 refine Ch.no rfl rfl rfl (ne_true h16) rfl (by decide) ?_
                 refine Ch.op rfl rfl (by decide) (ok_pick_f rfl (vl rfl) h16 (vl rfl)) ?_
                 refine Ch.nil ?_
                 refine Fin.go ?_
                 refine Tr.weak [(8, _), (9, _), (10, _), (11, _), (13, _), (15, _), (16, _), (174, _)] ⟨⟨_, rfl, Pr.le_refl _⟩, ⟨_, rfl, Pr.le_refl _⟩, ⟨_, rfl, Pr.le_refl _⟩, ⟨_, rfl, Pr.le_refl _⟩, ⟨_, rfl, Pr.le_refl _⟩, ⟨_, rfl, Pr.le_refl _⟩, ⟨_, rfl, Pr.le_refl _⟩, ⟨_, rfl, Pr.le_refl _⟩, trivial⟩ ?_
                 refine Tr.cond rfl (fun h => nomatch h) (fun _ => ?_)
                 refine Tr.skip ?_
                 refine Fin.block ?_
                 refine Fin.go ?_
                 refine Tr.reg0 ?_
                 refine Ch.op rfl rfl (by decide) (ok_move rfl (vl rfl)) ?_
                 first
                  | (refine Ch.op rfl rfl (by decide) (ok_add rfl (vl rfl) (vl rfl) ?hin) ?_; case hin => unfold InI; omega)
                  | refine Ch.op rfl rfl (by decide) (ok_int rfl (vl rfl) (vl rfl) rfl) ?_
                 refine Ch.op rfl rfl (by decide) (ok_assign rfl (vl rfl)) ?_
                 refine Ch.nil ?_
                 exact Fin.fam_same (m + 1) ⟨hk_m, by omega⟩ ⟨⟨_, rfl, int_succ m⟩, ⟨_, rfl, Pr.le_refl _⟩, ⟨_, rfl, Pr.le_refl _⟩, ⟨_, rfl, Pr.le_refl _⟩, ⟨_, rfl, Pr.le_refl _⟩, ⟨_, rfl, Pr.le_refl _⟩, ⟨_, rfl, Pr.le_refl _⟩, trivial⟩
               ·
                have q15 := Nrm.nrm h15
                refine Ch.no rfl rfl rfl (ne_true h15) rfl (by decide) ?_
                refine Ch.no rfl rfl rfl (ne_true h15) rfl (by decide) ?_
                refine Ch.no rfl rfl rfl (ne_true h15) rfl (by decide) ?_
                refine Ch.no rfl rfl rfl (ne_true h15) rfl (by decide) ?_
                refine Ch.no rfl rfl rfl (ne_true h15) rfl (by decide) ?_
                refine Ch.op rfl rfl (by decide) (ok_pick_f rfl (vl rfl) h15 (vl rfl)) ?_
                refine Ch.op rfl rfl (by decide) (ok_move rfl (vl rfl)) ?_
                refine Ch.no rfl rfl rfl (by decide) rfl (by decide) ?_
                refine Ch.no rfl rfl rfl (by decide) rfl (by decide) ?_
                refine Ch.no rfl rfl rfl (by decide) rfl (by decide) ?_
                refine Ch.no rfl rfl rfl (by decide) rfl (by decide) ?_
                refine Ch.no rfl rfl rfl (by decide) rfl (by decide) ?_
                refine Ch.no rfl rfl rfl (by decide) rfl (by decide) ?_
                refine Ch.un rfl rfl rfl rfl (by decide) ?_
                refine Ch.un rfl rfl rfl rfl (by decide) ?_
                refine Ch.un rfl rfl rfl rfl (by decide) ?_
                refine Ch.un rfl rfl rfl rfl (by decide) ?_
                refine Ch.un rfl rfl rfl rfl (by decide) ?_
                refine Ch.un rfl rfl rfl rfl (by decide) ?_
                refine Ch.un rfl rfl rfl rfl (by decide) ?_
                refine Ch.un rfl rfl rfl rfl (by decide) ?_
                refine Ch.un rfl rfl rfl rfl (by decide) ?_
                refine Ch.un rfl rfl rfl rfl (by decide) ?_
                refine Ch.un rfl rfl rfl rfl (by decide) ?_
                refine Ch.un rfl rfl rfl rfl (by decide) ?_
                refine Ch.no rfl rfl rfl (by decide) rfl (by decide) ?_
                refine Ch.op rfl rfl (by decide) (ok_pick_f rfl (vl rfl) rfl (vl rfl)) ?_
                refine Ch.nil ?_
                refine Fin.go ?_
                refine Tr.weak [(8, _), (9, _), (10, _), (11, _), (13, _), (15, _), (16, _), (174, _)] ⟨⟨_, rfl, Pr.le_refl _⟩, ⟨_, rfl, Pr.le_refl _⟩, ⟨_, rfl, Pr.le_refl _⟩, ⟨_, rfl, Pr.le_refl _⟩, ⟨_, rfl, Pr.le_refl _⟩, ⟨_, rfl, Pr.le_refl _⟩, ⟨_, rfl, Pr.le_refl _⟩, ⟨_, rfl, Pr.le_refl _⟩, trivial⟩ ?_
                refine Tr.cond rfl (fun h => nomatch h) (fun _ => ?_)
                refine Tr.skip ?_
                refine Fin.block ?_
                refine Fin.go ?_
                refine Tr.reg0 ?_
                refine Ch.op rfl rfl (by decide) (ok_move rfl (vl rfl)) ?_
                first
                 | (refine Ch.op rfl rfl (by decide) (ok_add rfl (vl rfl) (vl rfl) ?hin) ?_; case hin => unfold InI; omega)
                 | refine Ch.op rfl rfl (by decide) (ok_int rfl (vl rfl) (vl rfl) rfl) ?_
                refine Ch.op rfl rfl (by decide) (ok_assign rfl (vl rfl)) ?_
                refine Ch.nil ?_
                exact Fin.fam_same (m + 1) ⟨hk_m, by omega⟩ ⟨⟨_, rfl, int_succ m⟩, ⟨_, rfl, Pr.le_refl _⟩, ⟨_, rfl, Pr.le_refl _⟩, ⟨_, rfl, Pr.le_refl _⟩, ⟨_, rfl, Pr.le_refl _⟩, ⟨_, rfl, Pr.le_refl _⟩, ⟨_, rfl, Pr.le_refl _⟩, trivial⟩
              ·
               have q14 := Nrm.nrm h14
               have he_m : m = (z1).length := by have := ge_of_dec h14; omega
               subst he_m
               refine Tr.exit ?_
               refine Fin.then_exit ?_
               refine Fin.then_exit ?_
               refine Fin.block_here ?_
               refine Fin.block ?_
               refine Fin.go ?_
               refine Tr.reg0 ?_
               refine Ch.op rfl rfl (by decide) (ok_move rfl (vl rfl)) ?_
               first
                | (refine Ch.op rfl rfl (by decide) (ok_add rfl (vl rfl) (vl rfl) ?hin) ?_; case hin => unfold InI; omega)
                | refine Ch.op rfl rfl (by decide) (ok_int rfl (vl rfl) (vl rfl) rfl) ?_
               refine Ch.op rfl rfl (by decide) (ok_assign rfl (vl rfl)) ?_
               refine Ch.nil ?_
               exact Fin.fam_same (k + 1) ⟨hk_k, by omega⟩ ⟨⟨_, rfl, int_succ k⟩, ⟨_, rfl, Pr.le_refl _⟩, ⟨_, rfl, Pr.le_refl _⟩, ⟨_, rfl, Pr.le_refl _⟩, ⟨_, rfl, Pr.le_refl _⟩, trivial⟩
   ·
    have q3 := Nrm.nrm h3
    have he_k : k = (st).length := by have := ge_of_dec h3; omega
    subst he_k
    refine Tr.exit ?_
    refine Fin.then_exit ?_
    refine Fin.then_exit ?_
    refine Fin.block_here ?_
    refine Fin.go ?_
    refine Tr.seq ?_
    refine Tr.reg0 ?_
    refine Ch.op rfl rfl (by decide) (ok_call rfl (w_awake) trivial) ?_
    refine Ch.op rfl rfl (by decide) (ok_assign rfl (vl rfl)) ?_
    refine Ch.nil ?_
    refine Fin.go ?_
    refine Tr.ret ?_
    refine Fin.ret1 rfl (OutW.bse _ _) rfl ?_
    · first | exact Pr.le_refl _ | (refine int_eq ?_; simp_all; done) | (refine bool_eq ?_; simp_all; done) | (refine bool_eq ?_; simp_all; omega) | (refine int_eq ?_; omega)
end Go.Proofs.YthmnoekgicggnaaGreat
namespace Go.Proofs.YthmnoekgicggnaaGreat
open Go Go.RowKit Cp Go.ChangeShapes Go.WideShapes Go.ChangeAt

theorem own0 : ownKnob Tryz.prog.godebug = none := by kernel_rfl
theorem laidOut0 : laidOutB Tryz.prog = true := by kernel_rfl
theorem u8_in {n : Int} (h : (Lit.int .u8 n).wf = true) : 0 ≤ n ∧ n < 256 := by
  simp only [Lit.wf, Bool.and_eq_true, decide_eq_true_eq] at h
  have h1 : IntKind.u8.min = 0 := rfl
  have h2 : IntKind.u8.max = 255 := rfl
  omega
theorem i64_in {n : Int} (h : (Lit.int .i64 n).wf = true) : InI n := by
  simp only [Lit.wf, Bool.and_eq_true, decide_eq_true_eq] at h
  have h1 : IntKind.i64.min = -9223372036854775808 := rfl
  have h2 : IntKind.i64.max = 9223372036854775807 := rfl
  unfold InI; omega
theorem opens_ints {P : Program} {t e : TypeId} (ht : P.underlying t = some (.slice e)) (he : P.underlying e = some (.int .i64)) (hc : P.cellsOf e = 1) : Opens P t (fun l : List Int => l.length ≤ maxLen ∧ ∀ n ∈ l, InI n) (fun l => [ints l]) :=
  (opens_slice ht hc (opens_int he)).map id (fun _ h => ⟨h.2, fun n hn => i64_in (h.1 n hn)⟩) (fun _ => rfl)

end Go.Proofs.YthmnoekgicggnaaGreat
namespace Go.Proofs.YthmnoekgicggnaaGreat
open Go Go.RowKit Cp Go.ChangeShapes Go.WideShapes Go.ChangeAt
set_option maxRecDepth 40000 in
theorem assetDecides_lifted (os : Os) (started : os.Started) (H : Type) (enc : TypeId × Value → H) :
    ReturnsInHanded {} Tryz.checked os 3 .any (Rows.assetDecidesSpec.pre6 enc Tryz.prog Tryz.f3 Rows.assetDecidesRow.domain false) (Rows.assetDecidesSpec.post enc Tryz.prog Tryz.f3 false true false false) := by
  refine returnsInHanded_of_change (C := Tryz.checked) own0 started (by kernel_rfl) Tryz.func3
    (ChangeSpec.witness6 (enc := enc) (C := Tryz.checked) false ⟨#[], #[.slice none 0 0, .int .u8 0, .int .u8 0], []⟩ 8 (by kernel_rfl) (by kernel_rfl) (by kernel_rfl) (by kernel_rfl)) ?_
  intro W base args ds gs before hval0 hW hcnd _
  have hval : ∀ (j : Nat) t v, Tryz.f3.params[j]? = some t → args[j]? = some v → Value.okWide Tryz.prog W .any base t v := hval0
  have hW' := hW
  obtain ⟨p, q, hA0, hV, hpq, hfz, hnd⟩ := hW
  have hA : DataW.TrodAll enc Tryz.prog W 0 (fun _ => true) true Tryz.f3.params.toList args.toList ds p := hA0
  have hA' := hA
  rw [Tryz.params3] at hA hval
  obtain ⟨v0, v1, v2, d0, d1, d2, p0, p1, p2, rfl, rfl, hp, h0, h1, h2⟩ := trodAll_three hA
  obtain ⟨rfl, rfl⟩ := trodVars_none hV
  obtain ⟨a0, _, e0⟩ := arg_one (opens_ints Tryz.underlying22 Tryz.underlying3 (by kernel_rfl)) h0 (by obtain ⟨_, _, _, rfl⟩ := okWide_slice Tryz.underlying22 (hval 0 22 v0 rfl rfl); rfl)
  obtain ⟨a1, hra, e1⟩ := arg_one (opens_int Tryz.underlying5) h1 (by obtain ⟨_, rfl⟩ := okWide_int Tryz.underlying5 (hval 1 5 v1 rfl rfl); rfl)
  obtain ⟨a2, hrb, e2⟩ := arg_one (opens_int Tryz.underlying5) h2 (by obtain ⟨_, rfl⟩ := okWide_int Tryz.underlying5 (hval 2 5 v2 rfl rfl); rfl)
  refine ((w_AssetDecides (u8_in hra) (u8_in hrb)).2 noM W [v0, v1, v2] (noM_bd W) ⟨e0, e1, e2, trivial⟩).mono fun e W' ⟨v, he, hv, hb⟩ => ?_
  subst he
  obtain rfl : v = .bool true := hv
  exact ⟨_, rfl, law_post laidOut0 (by kernel_rfl) rfl Tryz.underlying4 rfl hA' (by rw [hpq]; simp) hW' rfl hb⟩
set_option maxRecDepth 40000 in
theorem assetDecides_holds : Rows.AssetDecidesSaid :=
  OpenClaim.holds_of_wide 3 Tryz.f3 rfl rfl rfl rfl rfl rfl rfl ⟨rfl, rfl, rfl, rfl, rfl⟩ rfl rfl rfl rfl rfl (by kernel_rfl) Tryz.func3 (by kernel_rfl)
    (of_decide_eq_true (by kernel_rfl)) (by unfold Func.isWrapper; first | (rw [if_pos (by decide +kernel)]; kernel_rfl) | (rw [if_neg (by decide +kernel)]; exact ⟨rfl, rfl⟩))
    (fun os started H enc _ => assetDecides_lifted os started H enc)
end Go.Proofs.YthmnoekgicggnaaGreat
