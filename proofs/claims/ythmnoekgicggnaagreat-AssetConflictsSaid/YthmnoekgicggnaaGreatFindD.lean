/-
  What the functions named below compute, proved from their text; printed by a program of our own.
-/
import Derived.Test.YthmnoekgicggnaaGreatTypes
import Derived.Test.YthmnoekgicggnaaGreatSlices
import Derived.Test.YthmnoekgicggnaaGreatEqs
import Derived.Test.YthmnoekgicggnaaGreatCat
import Derived.Test.YthmnoekgicggnaaGreatCat2
import Derived.Test.YthmnoekgicggnaaGreatCat3
import Derived.Test.YthmnoekgicggnaaGreatCat5
import Derived.Test.YthmnoekgicggnaaGreatFindA
import Derived.Test.YthmnoekgicggnaaGreatFindB
import Derived.Test.YthmnoekgicggnaaGreatFindC
import Derived.Test.YthmnoekgicggnaaGreatCoreT
namespace Go.Proofs.YthmnoekgicggnaaGreat
open Go Go.RowKit Cp

def AdjF (l : List Fnd) : Prop := ∀ (j : Nat) a b, l[j]? = some a → l[j + 1]? = some b → ordF a b < 0
structure NormP (l : List Fnd) : Prop where
  check : ∀ f ∈ l, checkF f = true
  adj : AdjF l
  len : l.length ≤ 400
abbrev AdjTo (l : List Fnd) (k : Nat) : Prop := ∀ (j : Nat) a b, j + 1 < k → l[j]? = some a → l[j + 1]? = some b → ordF a b < 0
theorem adj_step {l : List Fnd} {k : Nat} {x : Fnd} (hx : l[k]? = some x) (hp : ∀ y, 0 < k → l[k - 1]? = some y → ordF y x < 0) (h : AdjTo l k) : AdjTo l (k + 1) := by
  intro j a b hj ha hb
  by_cases hjk : j + 1 = k
  · subst hjk
    rw [hx] at hb; cases hb
    exact hp a (by omega) (by simpa using ha)
  · exact h j a b (by omega) ha hb
abbrev ChTo (l : List Fnd) (k : Nat) : Prop := ∀ (j : Nat) y, j < k → l[j]? = some y → checkF y = true
theorem ch_step {l : List Fnd} {k : Nat} {x : Fnd} (hx : l[k]? = some x) (hp : checkF x = true) (h : ChTo l k) : ChTo l (k + 1) := by
  intro j y hj hy
  by_cases hjk : j = k
  · subst hjk; rw [hx] at hy; cases hy; exact hp
  · exact h j y (by omega) hy
theorem ch_all {l : List Fnd} (h : ChTo l l.length) : ∀ f ∈ l, checkF f = true := by
  intro f hf
  obtain ⟨j, hj⟩ := List.mem_iff_getElem?.1 hf
  exact h j f (by rcases Nat.lt_or_ge j l.length with h' | h'; exact h'; rw [List.getElem?_eq_none h'] at hj; cases hj) hj
theorem adj_all {l : List Fnd} (h : AdjTo l l.length) : AdjF l := fun j a b ha hb => h j a b (by rcases Nat.lt_or_ge (j + 1) l.length with h' | h'; exact h'; rw [List.getElem?_eq_none h'] at hb; cases hb) ha hb
theorem check_no {f : Fnd} (h : ¬ (if checkF f = true then (0 : Int) else 24) = 0) : checkF f = false := by
  cases hc : checkF f with
  | false => rfl
  | true => rw [if_pos hc] at h; exact absurd rfl h
theorem check_yes {f : Fnd} (h : (if checkF f = true then (0 : Int) else 24) = 0) : checkF f = true := by
  cases hc : checkF f with
  | true => rfl
  | false => rw [hc] at h; cases h
theorem pred_at {l : List Fnd} {f : Fnd → List Pr} {k : Nat} {x : Fnd} (h0 : 0 < k) (h : l[k - 1]? = some x) : (l.map f)[(((k : Nat) : Int) - 1).toNat]? = some (f x) := by
  rw [show (((k : Nat) : Int) - 1).toNat = k - 1 by omega, List.getElem?_map, h]; rfl

set_option maxRecDepth 20000 in
theorem w_FNormal {l : List Fnd} (hf : ∀ f ∈ l, f.fits) [Decidable (NormP l)] : Fun Tryz.prog 36 [fnds l] (bool (decide (NormP l))) := by
  refine Fun.of Tryz.func36 rfl rfl (by exact Nat.le_of_ble_eq_true rfl) fun M0 w0 => ?_
  refine Tr.lenm 0 rfl fun hlm_0 => ?_
  refine Tr.seq ?_
  refine Tr.reg0 ?_
  refine Ch.op rfl rfl (by decide) (ok_assign rfl (vl rfl)) ?_
  refine Ch.nil ?_
  refine Fin.go ?_
  refine Tr.seq ?_
  refine Tr.seq ?_
  refine Tr.reg0 ?_
  refine Ch.op rfl rfl (by decide) (ok_move rfl (vl rfl)) ?_
  first
    | refine Ch.op rfl rfl (by decide) (ok_lenm rfl Tryz.underlying27 (vl rfl)) ?_
    | refine Ch.op rfl rfl (by decide) (ok_len rfl Tryz.underlying27 (vl rfl)) ?_
  refine Ch.op rfl rfl (by decide) (ok_move rfl (vl rfl)) ?_
  refine Ch.nil ?_
  refine Fin.go ?_
  refine Tr.block ?_
  refine Tr.loopw [(0, _), (5, _), (6, _)] ⟨⟨_, rfl, Pr.le_refl _⟩, ⟨_, rfl, Pr.le_refl _⟩, ⟨_, rfl, Pr.le_refl _⟩, trivial⟩ (fun k : Nat => [(7, int ((k : Nat) : Int))]) (fun k : Nat => k ≤ (l).length ∧ (ChTo l k ∧ AdjTo l k)) (fun k : Nat => (l).length - k) 0 (⟨Nat.zero_le _, ⟨fun j y hj => absurd hj (by omega), fun j a b hj => absurd hj (by omega)⟩⟩) ⟨⟨_, rfl, Pr.le_refl _⟩, trivial⟩ ?_
  rintro k ⟨hle_k, hinv_k⟩
  refine Tr.seq ?_
  refine Tr.reg0 ?_
  refine Ch.op rfl rfl (by decide) (ok_int rfl (vl rfl) (vl rfl) rfl) ?_
  refine Ch.nil ?_
  refine Fin.go ?_
  refine Tr.seq ?_
  refine Tr.cond rfl (fun h1 => ?_) (fun h1 => ?_)
  ·
    have q1 := Nrm.nrm h1
    have hk_k : k < (l).length := lt_of_dec h1
    obtain ⟨x, hx_k⟩ := at_ hk_k
    refine Tr.skip ?_
    refine Fin.go ?_
    refine Tr.seq ?_
    refine Tr.block ?_
    refine Tr.seq ?_
    refine Tr.regT ?_
    refine TO.op rfl rfl (by decide) (ok_move rfl (vl rfl)) ?_
    refine TO.op rfl rfl (by decide) (ok_indexAddr rfl Tryz.underlying27 sz42 (vl rfl) (vl rfl) (by omega) (by first | exact row_at (by assumption) | exact row_atI (by assumption) | assumption)) ?_
    refine TO.op rfl rfl (by decide) (ok_loadA rfl agg42 sz42 (vl rfl) rfl rfl) ?_
    refine TO.alloc rfl rfl (by decide) rfl z42 zo42 (fun b1 => ?_)
    refine TO.op rfl rfl (by decide) (ok_assign rfl (vl rfl)) ?_
    refine TO.store_all 0 rfl rfl rfl (vl rfl) (VL.le (vl rfl) (agg_cellsP _)) rfl sz42 rfl rfl ?_
    refine TO.freeze 0 4 rfl rfl ?_
    refine TO.nil ?_
    refine Fin.go ?_
    refine Tr.seq ?_
    refine Tr.reg1 mixed (by kernel_rfl) ?_
    refine Ch.op rfl rfl (by decide) (ok_loadA rfl agg42 sz42 (vl rfl) rfl rfl) ?_
    refine Ch.op rfl rfl (by decide) (ok_call rfl (w_FCheck (hf x (List.mem_of_getElem? hx_k))) ⟨⟨_, rfl, Pr.le_refl _⟩, trivial⟩) ?_
    refine Ch.op rfl rfl (by decide) (ok_int rfl (vl rfl) (vl rfl) rfl) ?_
    refine Ch.op rfl rfl (by decide) (ok_move rfl (vl rfl)) ?_
    refine Ch.cases 15 rfl (fun h2 => ?_) (fun h2 => ?_)
    ·
      have q2 := Nrm.nrm h2
      have hc := check_no q2
      refine Ch.no rfl rfl rfl (ne_false h2) rfl (by decide) ?_
      refine Ch.no rfl rfl rfl (ne_false h2) rfl (by decide) ?_
      refine Ch.no rfl rfl rfl (ne_false h2) rfl (by decide) ?_
      refine Ch.un rfl rfl rfl rfl (by decide) ?_
      refine Ch.un rfl rfl rfl rfl (by decide) ?_
      refine Ch.un rfl rfl rfl rfl (by decide) ?_
      refine Ch.un rfl rfl rfl rfl (by decide) ?_
      refine Ch.un rfl rfl rfl rfl (by decide) ?_
      refine Ch.un rfl rfl rfl rfl (by decide) ?_
      refine Ch.un rfl rfl rfl rfl (by decide) ?_
      refine Ch.un rfl rfl rfl rfl (by decide) ?_
      refine Ch.no rfl rfl rfl (ne_false h2) rfl (by decide) ?_
      refine Ch.op rfl rfl (by decide) (ok_pick_t rfl (vl rfl) h2 (vl rfl)) ?_
      refine Ch.nil ?_
      refine Fin.go ?_
      refine Tr.weak [(0, _), (5, _), (6, _), (7, _), (28, _)] ⟨⟨_, rfl, Pr.le_refl _⟩, ⟨_, rfl, Pr.le_refl _⟩, ⟨_, rfl, Pr.le_refl _⟩, ⟨_, rfl, Pr.le_refl _⟩, ⟨_, rfl, Pr.le_refl _⟩, trivial⟩ ?_
      refine Tr.cond rfl (fun _ => ?_) (fun h => nomatch h)
      refine Tr.seq ?_
      refine Tr.reg0 ?_
      refine Ch.op rfl rfl (by decide) (ok_assign rfl (vl rfl)) ?_
      refine Ch.nil ?_
      refine Fin.go ?_
      refine Tr.ret ?_
      refine Fin.block_ret ?_
      refine Fin.then_ret ?_
      refine Fin.then_ret ?_
      refine Fin.block_ret ?_
      refine Fin.then_ret ?_
      refine Fin.ret1 rfl (OutW.bse _ _) rfl ?_
      · first | (refine bool_eq ?_; symm; rw [decide_eq_false_iff_not]; intro hn; have := hn.check x (List.mem_of_getElem? hx_k); rw [hc] at this; cases this; done) | (refine bool_eq ?_; symm; rw [decide_eq_false_iff_not]; intro hn; have := hn.adj (k - 1) p x hp (by rw [show k - 1 + 1 = k by omega]; exact hx_k); omega; done) | (refine bool_eq ?_; rw [decide_eq_decide]; exact ⟨fun hl => ⟨ch_all hinv_k.1, adj_all hinv_k.2, by omega⟩, fun hn => by have := hn.len; omega⟩)
    ·
      have q2 := Nrm.nrm h2
      have hc := check_yes q2
      refine Ch.yes rfl rfl rfl h2 rfl (by decide) (ok_move rfl (vl rfl)) ?_
      refine Ch.yes rfl rfl rfl h2 rfl (by decide) (ok_int rfl (vl rfl) (vl rfl) rfl) ?_
      refine Ch.yes rfl rfl rfl h2 rfl (by decide) (ok_move rfl (vl rfl)) ?_
      refine Ch.cases 18 rfl (fun h3 => ?_) (fun h3 => ?_)
      ·
        have q3 := Nrm.nrm h3
        obtain ⟨p, hp⟩ := at_ (l := l) (k := k - 1) (by omega)
        refine Ch.yes rfl rfl rfl h3 rfl (by decide) (ok_move rfl (vl rfl)) ?_
        refine Ch.yes rfl rfl rfl h3 rfl (by decide) (ok_move rfl (vl rfl)) ?_
        first
          | (refine Ch.yes rfl rfl rfl h3 rfl (by decide) (ok_sub rfl (vl rfl) (vl rfl) ?hin) ?_; case hin => unfold InI; omega)
          | refine Ch.yes rfl rfl rfl h3 rfl (by decide) (ok_int rfl (vl rfl) (vl rfl) rfl) ?_
        refine Ch.yes rfl rfl rfl h3 rfl (by decide) (ok_indexAddr rfl Tryz.underlying27 sz42 (vl rfl) (vl rfl) (by omega) (pred_at (by omega) hp)) ?_
        refine Ch.yes rfl rfl rfl h3 rfl (by decide) (ok_loadA rfl agg42 sz42 (vl rfl) rfl rfl) ?_
        refine Ch.yes rfl rfl rfl h3 rfl (by decide) (ok_loadA rfl agg42 sz42 (vl rfl) rfl rfl) ?_
        refine Ch.yes rfl rfl rfl h3 rfl (by decide) (ok_call rfl (w_FOrder) ⟨⟨_, rfl, Pr.le_refl _⟩, ⟨_, rfl, Pr.le_refl _⟩, trivial⟩) ?_
        refine Ch.yes rfl rfl rfl h3 rfl (by decide) (ok_int rfl (vl rfl) (vl rfl) rfl) ?_
        refine Ch.yes rfl rfl rfl h2 rfl (by decide) (ok_pick_t rfl (vl rfl) h3 (vl rfl)) ?_
        refine Ch.op rfl rfl (by decide) (ok_pick_f rfl (vl rfl) h2 (vl rfl)) ?_
        refine Ch.nil ?_
        refine Fin.go ?_
        refine Tr.weak [(0, _), (5, _), (6, _), (7, _), (28, _)] ⟨⟨_, rfl, Pr.le_refl _⟩, ⟨_, rfl, Pr.le_refl _⟩, ⟨_, rfl, Pr.le_refl _⟩, ⟨_, rfl, Pr.le_refl _⟩, ⟨_, rfl, Pr.le_refl _⟩, trivial⟩ ?_
        refine Tr.cond rfl (fun h4 => ?_) (fun h4 => ?_)
        ·
          have q4 := Nrm.nrm h4
          refine Tr.seq ?_
          refine Tr.reg0 ?_
          refine Ch.op rfl rfl (by decide) (ok_assign rfl (vl rfl)) ?_
          refine Ch.nil ?_
          refine Fin.go ?_
          refine Tr.ret ?_
          refine Fin.block_ret ?_
          refine Fin.then_ret ?_
          refine Fin.then_ret ?_
          refine Fin.block_ret ?_
          refine Fin.then_ret ?_
          refine Fin.ret1 rfl (OutW.bse _ _) rfl ?_
          · first | (refine bool_eq ?_; symm; rw [decide_eq_false_iff_not]; intro hn; have := hn.check x (List.mem_of_getElem? hx_k); rw [hc] at this; cases this; done) | (refine bool_eq ?_; symm; rw [decide_eq_false_iff_not]; intro hn; have := hn.adj (k - 1) p x hp (by rw [show k - 1 + 1 = k by omega]; exact hx_k); omega; done) | (refine bool_eq ?_; rw [decide_eq_decide]; exact ⟨fun hl => ⟨ch_all hinv_k.1, adj_all hinv_k.2, by omega⟩, fun hn => by have := hn.len; omega⟩)
        ·
          have q4 := Nrm.nrm h4
          refine Tr.skip ?_
          refine Fin.block ?_
          refine Fin.go ?_
          refine Tr.reg0 ?_
          first
            | (refine Ch.op rfl rfl (by decide) (ok_add rfl (vl rfl) (vl rfl) ?hin) ?_; case hin => unfold InI; omega)
            | refine Ch.op rfl rfl (by decide) (ok_int rfl (vl rfl) (vl rfl) rfl) ?_
          refine Ch.op rfl rfl (by decide) (ok_move rfl (vl rfl)) ?_
          refine Ch.nil ?_
          exact Fin.fam_same (k + 1) ⟨⟨hk_k, ⟨ch_step hx_k hc hinv_k.1, adj_step hx_k (by intro y h0 hy; first | omega | (rw [hp] at hy; cases hy; omega)) hinv_k.2⟩⟩, by omega⟩ ⟨⟨_, rfl, int_succ k⟩, ⟨_, rfl, Pr.le_refl _⟩, ⟨_, rfl, Pr.le_refl _⟩, ⟨_, rfl, Pr.le_refl _⟩, trivial⟩
      ·
        have q3 := Nrm.nrm h3
        refine Ch.no rfl rfl rfl (ne_true h3) rfl (by decide) ?_
        refine Ch.no rfl rfl rfl (ne_true h3) rfl (by decide) ?_
        refine Ch.no rfl rfl rfl (ne_true h3) rfl (by decide) ?_
        refine Ch.no rfl rfl rfl (ne_true h3) rfl (by decide) ?_
        refine Ch.no rfl rfl rfl (ne_true h3) rfl (by decide) ?_
        refine Ch.no rfl rfl rfl (ne_true h3) rfl (by decide) ?_
        refine Ch.no rfl rfl rfl (ne_true h3) rfl (by decide) ?_
        refine Ch.no rfl rfl rfl (ne_true h3) rfl (by decide) ?_
        refine Ch.yes rfl rfl rfl h2 rfl (by decide) (ok_pick_f rfl (vl rfl) h3 (vl rfl)) ?_
        refine Ch.op rfl rfl (by decide) (ok_pick_f rfl (vl rfl) h2 (vl rfl)) ?_
        refine Ch.nil ?_
        refine Fin.go ?_
        refine Tr.weak [(0, _), (5, _), (6, _), (7, _), (28, _)] ⟨⟨_, rfl, Pr.le_refl _⟩, ⟨_, rfl, Pr.le_refl _⟩, ⟨_, rfl, Pr.le_refl _⟩, ⟨_, rfl, Pr.le_refl _⟩, ⟨_, rfl, Pr.le_refl _⟩, trivial⟩ ?_
        refine Tr.cond rfl (fun h => nomatch h) (fun _ => ?_)
        refine Tr.skip ?_
        refine Fin.block ?_
        refine Fin.go ?_
        refine Tr.reg0 ?_
        first
          | (refine Ch.op rfl rfl (by decide) (ok_add rfl (vl rfl) (vl rfl) ?hin) ?_; case hin => unfold InI; omega)
          | refine Ch.op rfl rfl (by decide) (ok_int rfl (vl rfl) (vl rfl) rfl) ?_
        refine Ch.op rfl rfl (by decide) (ok_move rfl (vl rfl)) ?_
        refine Ch.nil ?_
        exact Fin.fam_same (k + 1) ⟨⟨hk_k, ⟨ch_step hx_k hc hinv_k.1, adj_step hx_k (by intro y h0 hy; first | omega | (rw [hp] at hy; cases hy; omega)) hinv_k.2⟩⟩, by omega⟩ ⟨⟨_, rfl, int_succ k⟩, ⟨_, rfl, Pr.le_refl _⟩, ⟨_, rfl, Pr.le_refl _⟩, ⟨_, rfl, Pr.le_refl _⟩, trivial⟩
  ·
    have q1 := Nrm.nrm h1
    have he_k : k = (l).length := by have := ge_of_dec h1; omega
    subst he_k
    refine Tr.exit ?_
    refine Fin.then_exit ?_
    refine Fin.then_exit ?_
    refine Fin.block_here ?_
    refine Fin.go ?_
    refine Tr.seq ?_
    refine Tr.reg0 ?_
    refine Ch.op rfl rfl (by decide) (ok_move rfl (vl rfl)) ?_
    first
      | refine Ch.op rfl rfl (by decide) (ok_lenm rfl Tryz.underlying27 (vl rfl)) ?_
      | refine Ch.op rfl rfl (by decide) (ok_len rfl Tryz.underlying27 (vl rfl)) ?_
    refine Ch.op rfl rfl (by decide) (ok_int rfl (vl rfl) (vl rfl) rfl) ?_
    refine Ch.op rfl rfl (by decide) (ok_assign rfl (vl rfl)) ?_
    refine Ch.nil ?_
    refine Fin.go ?_
    refine Tr.ret ?_
    refine Fin.ret1 rfl (OutW.bse _ _) rfl ?_
    · first | (refine bool_eq ?_; symm; rw [decide_eq_false_iff_not]; intro hn; have := hn.check x (List.mem_of_getElem? hx_k); rw [hc] at this; cases this; done) | (refine bool_eq ?_; symm; rw [decide_eq_false_iff_not]; intro hn; have := hn.adj (k - 1) p x hp (by rw [show k - 1 + 1 = k by omega]; exact hx_k); omega; done) | (refine bool_eq ?_; rw [decide_eq_decide]; exact ⟨fun hl => ⟨ch_all hinv_k.1, adj_all hinv_k.2, by omega⟩, fun hn => by have := hn.len; omega⟩)
theorem e_FNormal : Entry Tryz.prog 36 := ⟨_, Tryz.func36, rfl, rfl⟩

/-- Where a finding belongs, seen from the end. -/
def kF (l : List Fnd) (f : Fnd) : Nat := (l.reverse.dropWhile fun x => decide (0 < ordF x f)).length
def putF (l : List Fnd) (f : Fnd) : List Fnd := if 0 < kF l f ∧ ((l[kF l f - 1]?).map fun x => ordF x f) = some 0 then l else l.take (kF l f) ++ [f] ++ l.drop (kF l f)
theorem dropWhile_app {β : Type} {p : β → Bool} : ∀ {l m : List β}, (∀ x ∈ l, p x = true) → (l ++ m).dropWhile p = m.dropWhile p
  | [], _, _ => rfl
  | a :: l, m, h => by
    rw [List.cons_append, List.dropWhile_cons_of_pos (h a (by simp))]
    exact dropWhile_app fun x hx => h x (List.mem_cons_of_mem _ hx)
theorem kF_eq {l : List Fnd} {f : Fnd} {k : Nat} (hk : k ≤ l.length) (hgt : ∀ (j : Nat) y, k ≤ j → l[j]? = some y → 0 < ordF y f) (hle : k = 0 ∨ ∃ x, l[k - 1]? = some x ∧ ¬ 0 < ordF x f) : kF l f = k := by
  unfold kF
  have h1 : l.reverse = (l.drop k).reverse ++ (l.take k).reverse := by rw [← List.reverse_append, List.take_append_drop]
  rw [h1, dropWhile_app (by
    intro x hx
    rw [List.mem_reverse] at hx
    obtain ⟨j, hj⟩ := List.mem_iff_getElem?.1 hx
    rw [List.getElem?_drop] at hj
    simpa using hgt _ x (by omega) hj)]
  rcases hle with h0 | ⟨x, hx, hn⟩
  · subst h0; simp
  · have hk0 : 0 < k := by
      rcases Nat.eq_zero_or_pos k with h | h
      · subst h
        rw [show (0 : Nat) - 1 = 0 from rfl] at hx
        exact absurd (hgt 0 x (Nat.le_refl _) hx) hn
      · exact h
    have h2 : l.take k = l.take (k - 1) ++ [x] := by
      have := List.take_add_one (l := l) (i := k - 1)
      rw [show k - 1 + 1 = k by omega, hx] at this
      simpa using this
    rw [h2, List.reverse_append]
    show (List.dropWhile _ (x :: (l.take (k - 1)).reverse)).length = k
    rw [List.dropWhile_cons_of_neg (by simpa using hn)]
    simp; omega
theorem putF_same {l : List Fnd} {f x : Fnd} {k : Nat} (h : kF l f = k) (h0 : 0 < k) (hx : l[k - 1]? = some x) (he : ordF x f = 0) : putF l f = l := by
  unfold putF; rw [h, if_pos ⟨h0, by rw [hx]; simp [he]⟩]
theorem putF_new {l : List Fnd} {f : Fnd} {k : Nat} (h : kF l f = k) (hn : k = 0 ∨ ∃ x, l[k - 1]? = some x ∧ ¬ ordF x f = 0) : putF l f = l.take k ++ [f] ++ l.drop k := by
  unfold putF; rw [h, if_neg]
  rintro ⟨h1, h2⟩
  rcases hn with h3 | ⟨x, hx, hne⟩
  · omega
  · rw [hx] at h2; simp at h2; exact hne h2

set_option maxRecDepth 20000 in
theorem w_put {l : List Fnd} {f : Fnd} (hl : l.length ≤ 1000) : Fun Tryz.prog 59 [fnds l, agg (rowF f)] (fnds (putF l f)) := by
  refine Fun.of Tryz.func59 rfl rfl (by exact Nat.le_of_ble_eq_true rfl) fun M0 w0 => ?_
  refine Tr.seq ?_
  refine Tr.reg0 ?_
  refine Ch.op rfl rfl (by decide) (ok_box rfl (VL.le (vl rfl) (agg_cellsP _))) ?_
  refine Ch.op rfl rfl (by decide) (ok_assign rfl (vl rfl)) ?_
  refine Ch.nil ?_
  refine Fin.go ?_
  refine Tr.seq ?_
  refine Tr.reg0 ?_
  refine Ch.op rfl rfl (by decide) (ok_move rfl (vl rfl)) ?_
  first
    | refine Ch.op rfl rfl (by decide) (ok_lenm rfl Tryz.underlying27 (vl rfl)) ?_
    | refine Ch.op rfl rfl (by decide) (ok_len rfl Tryz.underlying27 (vl rfl)) ?_
  refine Ch.op rfl rfl (by decide) (ok_assign rfl (vl rfl)) ?_
  refine Ch.nil ?_
  refine Fin.go ?_
  refine Tr.seq ?_
  refine Tr.block ?_
  refine Tr.loopw [(0, _), (3, _)] ⟨⟨_, rfl, Pr.le_refl _⟩, ⟨_, rfl, Pr.le_refl _⟩, trivial⟩ (fun k : Nat => [(5, int ((k : Nat) : Int))]) (fun k : Nat => k ≤ l.length ∧ ∀ (j : Nat) y, k ≤ j → l[j]? = some y → 0 < ordF y f) (fun k : Nat => k) l.length (⟨Nat.le_refl _, fun j y h1 h2 => by rw [List.getElem?_eq_none h1] at h2; cases h2⟩) ⟨⟨_, rfl, Pr.le_refl _⟩, trivial⟩ ?_
  rintro k ⟨hk, hgt⟩
  refine Tr.seq ?_
  refine Tr.seq ?_
  refine Tr.reg1 mixed (by kernel_rfl) ?_
  refine Ch.op rfl rfl (by decide) (ok_move rfl (vl rfl)) ?_
  refine Ch.op rfl rfl (by decide) (ok_int rfl (vl rfl) (vl rfl) rfl) ?_
  refine Ch.op rfl rfl (by decide) (ok_move rfl (vl rfl)) ?_
  refine Ch.cases 10 rfl (fun h1 => ?_) (fun h1 => ?_)
  ·
    have q1 := Nrm.nrm h1
    obtain ⟨x, hx⟩ := at_ (l := l) (k := k - 1) (by omega)
    refine Ch.yes rfl rfl rfl h1 rfl (by decide) (ok_move rfl (vl rfl)) ?_
    refine Ch.yes rfl rfl rfl h1 rfl (by decide) (ok_move rfl (vl rfl)) ?_
    first
      | (refine Ch.yes rfl rfl rfl h1 rfl (by decide) (ok_sub rfl (vl rfl) (vl rfl) ?hin) ?_; case hin => unfold InI; omega)
      | refine Ch.yes rfl rfl rfl h1 rfl (by decide) (ok_int rfl (vl rfl) (vl rfl) rfl) ?_
    refine Ch.yes rfl rfl rfl h1 rfl (by decide) (ok_indexAddr rfl Tryz.underlying27 sz42 (vl rfl) (vl rfl) (by omega) (pred_at (by omega) hx)) ?_
    refine Ch.yes rfl rfl rfl h1 rfl (by decide) (ok_loadA rfl agg42 sz42 (vl rfl) rfl rfl) ?_
    refine Ch.yes rfl rfl rfl h1 rfl (by decide) (ok_loadA rfl agg42 sz42 (vl rfl) rfl rfl) ?_
    refine Ch.yes rfl rfl rfl h1 rfl (by decide) (ok_call rfl (w_R14Order) ⟨⟨_, rfl, Pr.le_refl _⟩, ⟨_, rfl, Pr.le_refl _⟩, trivial⟩) ?_
    refine Ch.yes rfl rfl rfl h1 rfl (by decide) (ok_int rfl (vl rfl) (vl rfl) rfl) ?_
    refine Ch.op rfl rfl (by decide) (ok_pick_t rfl (vl rfl) h1 (vl rfl)) ?_
    refine Ch.nil ?_
    refine Fin.go ?_
    refine Tr.weak [(0, _), (3, _), (5, _), (19, _)] ⟨⟨_, rfl, Pr.le_refl _⟩, ⟨_, rfl, Pr.le_refl _⟩, ⟨_, rfl, Pr.le_refl _⟩, ⟨_, rfl, Pr.le_refl _⟩, trivial⟩ ?_
    refine Tr.cond rfl (fun h2 => ?_) (fun h2 => ?_)
    ·
      have q2 := Nrm.nrm h2
      have := h2
      refine Tr.skip ?_
      refine Fin.go ?_
      refine Tr.block ?_
      refine Tr.reg0 ?_
      refine Ch.op rfl rfl (by decide) (ok_move rfl (vl rfl)) ?_
      first
        | (refine Ch.op rfl rfl (by decide) (ok_sub rfl (vl rfl) (vl rfl) ?hin) ?_; case hin => unfold InI; omega)
        | refine Ch.op rfl rfl (by decide) (ok_int rfl (vl rfl) (vl rfl) rfl) ?_
      refine Ch.op rfl rfl (by decide) (ok_assign rfl (vl rfl)) ?_
      refine Ch.nil ?_
      refine Fin.block ?_
      exact Fin.fam_same (k - 1) ⟨⟨by omega, fun j y h1 h2 => by rcases Nat.eq_or_lt_of_le h1 with h3 | h3; (subst h3; rw [hx] at h2; cases h2; omega); exact hgt j y (by omega) h2⟩, by omega⟩ ⟨⟨_, rfl, int_eq (by omega)⟩, ⟨_, rfl, Pr.le_refl _⟩, ⟨_, rfl, Pr.le_refl _⟩, trivial⟩
    ·
      have q2 := Nrm.nrm h2
      have := h2
      refine Tr.exit ?_
      refine Fin.then_exit ?_
      refine Fin.then_exit ?_
      refine Fin.block_here ?_
      refine Fin.go ?_
      refine Tr.seq ?_
      refine Tr.seq ?_
      refine Tr.reg1 mixed (by kernel_rfl) ?_
      refine Ch.op rfl rfl (by decide) (ok_move rfl (vl rfl)) ?_
      refine Ch.op rfl rfl (by decide) (ok_int rfl (vl rfl) (vl rfl) rfl) ?_
      refine Ch.op rfl rfl (by decide) (ok_move rfl (vl rfl)) ?_
      refine Ch.cases 24 rfl (fun h3 => ?_) (fun h3 => ?_)
      ·
        have q3 := Nrm.nrm h3
        obtain ⟨x2, hx2⟩ := at_ (l := l) (k := k - 1) (by omega)
        refine Ch.yes rfl rfl rfl h3 rfl (by decide) (ok_move rfl (vl rfl)) ?_
        refine Ch.yes rfl rfl rfl h3 rfl (by decide) (ok_move rfl (vl rfl)) ?_
        first
          | (refine Ch.yes rfl rfl rfl h3 rfl (by decide) (ok_sub rfl (vl rfl) (vl rfl) ?hin) ?_; case hin => unfold InI; omega)
          | refine Ch.yes rfl rfl rfl h3 rfl (by decide) (ok_int rfl (vl rfl) (vl rfl) rfl) ?_
        refine Ch.yes rfl rfl rfl h3 rfl (by decide) (ok_indexAddr rfl Tryz.underlying27 sz42 (vl rfl) (vl rfl) (by omega) (pred_at (by omega) hx2)) ?_
        refine Ch.yes rfl rfl rfl h3 rfl (by decide) (ok_loadA rfl agg42 sz42 (vl rfl) rfl rfl) ?_
        refine Ch.yes rfl rfl rfl h3 rfl (by decide) (ok_loadA rfl agg42 sz42 (vl rfl) rfl rfl) ?_
        refine Ch.yes rfl rfl rfl h3 rfl (by decide) (ok_call rfl (w_R14Order) ⟨⟨_, rfl, Pr.le_refl _⟩, ⟨_, rfl, Pr.le_refl _⟩, trivial⟩) ?_
        refine Ch.yes rfl rfl rfl h3 rfl (by decide) (ok_int rfl (vl rfl) (vl rfl) rfl) ?_
        refine Ch.op rfl rfl (by decide) (ok_pick_t rfl (vl rfl) h3 (vl rfl)) ?_
        refine Ch.nil ?_
        refine Fin.go ?_
        refine Tr.weak [(0, _), (3, _), (5, _), (33, _)] ⟨⟨_, rfl, Pr.le_refl _⟩, ⟨_, rfl, Pr.le_refl _⟩, ⟨_, rfl, Pr.le_refl _⟩, ⟨_, rfl, Pr.le_refl _⟩, trivial⟩ ?_
        refine Tr.cond rfl (fun h4 => ?_) (fun h4 => ?_)
        ·
          have q4 := Nrm.nrm h4
          refine Tr.seq ?_
          refine Tr.reg0 ?_
          refine Ch.op rfl rfl (by decide) (ok_move rfl (vl rfl)) ?_
          refine Ch.op rfl rfl (by decide) (ok_assign rfl (vl rfl)) ?_
          refine Ch.nil ?_
          refine Fin.go ?_
          refine Tr.ret ?_
          refine Fin.then_ret ?_
          refine Fin.ret1 rfl (OutW.bse _ _) rfl ?_
          · rw [putF_same (kF_eq hk hgt (.inr ⟨x, hx, by omega⟩)) (by omega) hx2 (by assumption)]; exact Pr.le_refl _
        ·
          have q4 := Nrm.nrm h4
          refine Tr.skip ?_
          refine Fin.go ?_
          refine Tr.seq ?_
          refine Tr.pad ?_
          refine Tr.regX mixed [none, none, none, none, some (0, 0, true, 39), none, none, some (39, 0, true, 42), none, none, none, some (42, 0, true, 46), some (46, 0, true, 4)] (by kernel_rfl) ?_
          refine Cx.op rfl rfl (by decide) (fun _ => ok_buildSlice (xs := []) (rows := []) rfl rfl Tryz.underlying27 sz42 z42 rfl (by decide) trivial (by decide)) ?_
          refine Cx.op rfl rfl (by decide) (fun _ => ok_move rfl (vl rfl)) ?_
          refine Cx.op rfl rfl (by decide) (fun _ => ok_move rfl (vl rfl)) ?_
          refine Cx.op rfl rfl (by decide) (fun _ => ok_sliceTo rfl Tryz.underlying27 sz42 (vl rfl) (vl rfl) (by omega) (by first | omega | (simp; omega))) ?_
          refine Cx.ef 0 rfl rfl (by decide) (ef_append rfl rfl (by decide) rfl Tryz.underlying27 sz42 by42 z42 rfl (by decide) ⟨_, rfl, full_le _ _⟩ (vl rfl) (by simp; unfold maxLen; omega) (by simp; omega) (appR_full (by exact List.Mem.head _) (vl rfl))) ?_
          refine Cx.op rfl rfl (by decide) (fun _ => ok_loadA rfl agg42 sz42 (vl rfl) rfl rfl) ?_
          refine Cx.op rfl rfl (by decide) (fun _ => ok_buildSlice (xs := [.tmp 40]) (rows := [_]) rfl rfl Tryz.underlying27 sz42 z42 rfl (by decide) ⟨⟨(by exact rfl), (VL.le (vl rfl) (agg_cellsP _))⟩, trivial⟩ (by decide)) ?_
          refine Cx.ef 0 rfl rfl (by decide) (ef_append rfl rfl (by decide) rfl Tryz.underlying27 sz42 by42 z42 rfl (by decide) (vl rfl) ⟨_, rfl, full_le _ _⟩ (by simp; unfold maxLen; omega) (by simp; omega) appR_slot) ?_
          refine Cx.op rfl rfl (by decide) (fun _ => ok_move rfl (vl rfl)) ?_
          refine Cx.op rfl rfl (by decide) (fun _ => ok_move rfl (vl rfl)) ?_
          refine Cx.op rfl rfl (by decide) (fun _ => ok_sliceFrom rfl Tryz.underlying27 sz42 (vl rfl) (vl rfl) (by omega) (by first | omega | (simp; omega))) ?_
          refine Cx.ef 0 rfl rfl (by decide) (ef_append rfl rfl (by decide) rfl Tryz.underlying27 sz42 by42 z42 rfl (by decide) (vl rfl) (vl rfl) (by simp; unfold maxLen; omega) (by simp; omega) appR_slot) ?_
          refine Cx.ef 0 rfl rfl (by decide) (ef_move rfl rfl (by decide) rfl (vl rfl)) ?_
          refine Cx.nil ⟨rfl, ?_⟩
          refine FinX.open_ 0 4 rfl rfl (fun v1 => ?_)
          refine FinX.done (AllC.cons (AllC.map _)) ?_
          refine Fin.go ?_
          refine Tr.weak [(4, _)] ⟨⟨_, rfl, Pr.le_refl _⟩, trivial⟩ ?_
          refine Tr.ret ?_
          refine Fin.ret1 rfl (OutW.bse _ _) rfl ?_
          · rw [putF_new (kF_eq hk hgt (.inr ⟨x, hx, by omega⟩)) (.inr ⟨x2, hx2, by assumption⟩)]; exact Pr.le_trans (andIs_le _ _) (Pr.le_of_eq (by show slice 11 _ = slice 11 _; rw [Int.toNat_natCast, List.map_append, List.map_append, List.map_take, List.map_drop, List.nil_append]; rfl))
      ·
        have q3 := Nrm.nrm h3
        refine Ch.no rfl rfl rfl (ne_true h3) rfl (by decide) ?_
        refine Ch.no rfl rfl rfl (ne_true h3) rfl (by decide) ?_
        refine Ch.no rfl rfl rfl (ne_true h3) rfl (by decide) ?_
        refine Ch.no rfl rfl rfl (ne_true h3) rfl (by decide) ?_
        refine Ch.no rfl rfl rfl (ne_true h3) rfl (by decide) ?_
        refine Ch.no rfl rfl rfl (ne_true h3) rfl (by decide) ?_
        refine Ch.no rfl rfl rfl (ne_true h3) rfl (by decide) ?_
        refine Ch.no rfl rfl rfl (ne_true h3) rfl (by decide) ?_
        refine Ch.op rfl rfl (by decide) (ok_pick_f rfl (vl rfl) h3 (vl rfl)) ?_
        refine Ch.nil ?_
        refine Fin.go ?_
        refine Tr.weak [(0, _), (3, _), (5, _), (33, _)] ⟨⟨_, rfl, Pr.le_refl _⟩, ⟨_, rfl, Pr.le_refl _⟩, ⟨_, rfl, Pr.le_refl _⟩, ⟨_, rfl, Pr.le_refl _⟩, trivial⟩ ?_
        refine Tr.cond rfl (fun h => nomatch h) (fun _ => ?_)
        refine Tr.skip ?_
        refine Fin.go ?_
        refine Tr.seq ?_
        refine Tr.pad ?_
        refine Tr.regX mixed [none, none, none, none, some (0, 0, true, 39), none, none, some (39, 0, true, 42), none, none, none, some (42, 0, true, 46), some (46, 0, true, 4)] (by kernel_rfl) ?_
        refine Cx.op rfl rfl (by decide) (fun _ => ok_buildSlice (xs := []) (rows := []) rfl rfl Tryz.underlying27 sz42 z42 rfl (by decide) trivial (by decide)) ?_
        refine Cx.op rfl rfl (by decide) (fun _ => ok_move rfl (vl rfl)) ?_
        refine Cx.op rfl rfl (by decide) (fun _ => ok_move rfl (vl rfl)) ?_
        refine Cx.op rfl rfl (by decide) (fun _ => ok_sliceTo rfl Tryz.underlying27 sz42 (vl rfl) (vl rfl) (by omega) (by first | omega | (simp; omega))) ?_
        refine Cx.ef 0 rfl rfl (by decide) (ef_append rfl rfl (by decide) rfl Tryz.underlying27 sz42 by42 z42 rfl (by decide) ⟨_, rfl, full_le _ _⟩ (vl rfl) (by simp; unfold maxLen; omega) (by simp; omega) (appR_full (by exact List.Mem.head _) (vl rfl))) ?_
        refine Cx.op rfl rfl (by decide) (fun _ => ok_loadA rfl agg42 sz42 (vl rfl) rfl rfl) ?_
        refine Cx.op rfl rfl (by decide) (fun _ => ok_buildSlice (xs := [.tmp 40]) (rows := [_]) rfl rfl Tryz.underlying27 sz42 z42 rfl (by decide) ⟨⟨(by exact rfl), (VL.le (vl rfl) (agg_cellsP _))⟩, trivial⟩ (by decide)) ?_
        refine Cx.ef 0 rfl rfl (by decide) (ef_append rfl rfl (by decide) rfl Tryz.underlying27 sz42 by42 z42 rfl (by decide) (vl rfl) ⟨_, rfl, full_le _ _⟩ (by simp; unfold maxLen; omega) (by simp; omega) appR_slot) ?_
        refine Cx.op rfl rfl (by decide) (fun _ => ok_move rfl (vl rfl)) ?_
        refine Cx.op rfl rfl (by decide) (fun _ => ok_move rfl (vl rfl)) ?_
        refine Cx.op rfl rfl (by decide) (fun _ => ok_sliceFrom rfl Tryz.underlying27 sz42 (vl rfl) (vl rfl) (by omega) (by first | omega | (simp; omega))) ?_
        refine Cx.ef 0 rfl rfl (by decide) (ef_append rfl rfl (by decide) rfl Tryz.underlying27 sz42 by42 z42 rfl (by decide) (vl rfl) (vl rfl) (by simp; unfold maxLen; omega) (by simp; omega) appR_slot) ?_
        refine Cx.ef 0 rfl rfl (by decide) (ef_move rfl rfl (by decide) rfl (vl rfl)) ?_
        refine Cx.nil ⟨rfl, ?_⟩
        refine FinX.open_ 0 4 rfl rfl (fun v2 => ?_)
        refine FinX.done (AllC.cons (AllC.map _)) ?_
        refine Fin.go ?_
        refine Tr.weak [(4, _)] ⟨⟨_, rfl, Pr.le_refl _⟩, trivial⟩ ?_
        refine Tr.ret ?_
        refine Fin.ret1 rfl (OutW.bse _ _) rfl ?_
        · exfalso; omega
  ·
    have q1 := Nrm.nrm h1
    refine Ch.no rfl rfl rfl (ne_true h1) rfl (by decide) ?_
    refine Ch.no rfl rfl rfl (ne_true h1) rfl (by decide) ?_
    refine Ch.no rfl rfl rfl (ne_true h1) rfl (by decide) ?_
    refine Ch.no rfl rfl rfl (ne_true h1) rfl (by decide) ?_
    refine Ch.no rfl rfl rfl (ne_true h1) rfl (by decide) ?_
    refine Ch.no rfl rfl rfl (ne_true h1) rfl (by decide) ?_
    refine Ch.no rfl rfl rfl (ne_true h1) rfl (by decide) ?_
    refine Ch.no rfl rfl rfl (ne_true h1) rfl (by decide) ?_
    refine Ch.op rfl rfl (by decide) (ok_pick_f rfl (vl rfl) h1 (vl rfl)) ?_
    refine Ch.nil ?_
    refine Fin.go ?_
    refine Tr.weak [(0, _), (3, _), (5, _), (19, _)] ⟨⟨_, rfl, Pr.le_refl _⟩, ⟨_, rfl, Pr.le_refl _⟩, ⟨_, rfl, Pr.le_refl _⟩, ⟨_, rfl, Pr.le_refl _⟩, trivial⟩ ?_
    refine Tr.cond rfl (fun h => nomatch h) (fun _ => ?_)
    refine Tr.exit ?_
    refine Fin.then_exit ?_
    refine Fin.then_exit ?_
    refine Fin.block_here ?_
    refine Fin.go ?_
    refine Tr.seq ?_
    refine Tr.seq ?_
    refine Tr.reg1 mixed (by kernel_rfl) ?_
    refine Ch.op rfl rfl (by decide) (ok_move rfl (vl rfl)) ?_
    refine Ch.op rfl rfl (by decide) (ok_int rfl (vl rfl) (vl rfl) rfl) ?_
    refine Ch.op rfl rfl (by decide) (ok_move rfl (vl rfl)) ?_
    refine Ch.cases 24 rfl (fun h5 => ?_) (fun h5 => ?_)
    ·
      have q5 := Nrm.nrm h5
      obtain ⟨x2, hx2⟩ := at_ (l := l) (k := k - 1) (by omega)
      refine Ch.yes rfl rfl rfl h5 rfl (by decide) (ok_move rfl (vl rfl)) ?_
      refine Ch.yes rfl rfl rfl h5 rfl (by decide) (ok_move rfl (vl rfl)) ?_
      first
        | (refine Ch.yes rfl rfl rfl h5 rfl (by decide) (ok_sub rfl (vl rfl) (vl rfl) ?hin) ?_; case hin => unfold InI; omega)
        | refine Ch.yes rfl rfl rfl h5 rfl (by decide) (ok_int rfl (vl rfl) (vl rfl) rfl) ?_
      refine Ch.yes rfl rfl rfl h5 rfl (by decide) (ok_indexAddr rfl Tryz.underlying27 sz42 (vl rfl) (vl rfl) (by omega) (pred_at (by omega) hx2)) ?_
      refine Ch.yes rfl rfl rfl h5 rfl (by decide) (ok_loadA rfl agg42 sz42 (vl rfl) rfl rfl) ?_
      refine Ch.yes rfl rfl rfl h5 rfl (by decide) (ok_loadA rfl agg42 sz42 (vl rfl) rfl rfl) ?_
      refine Ch.yes rfl rfl rfl h5 rfl (by decide) (ok_call rfl (w_R14Order) ⟨⟨_, rfl, Pr.le_refl _⟩, ⟨_, rfl, Pr.le_refl _⟩, trivial⟩) ?_
      refine Ch.yes rfl rfl rfl h5 rfl (by decide) (ok_int rfl (vl rfl) (vl rfl) rfl) ?_
      refine Ch.op rfl rfl (by decide) (ok_pick_t rfl (vl rfl) h5 (vl rfl)) ?_
      refine Ch.nil ?_
      refine Fin.go ?_
      refine Tr.weak [(0, _), (3, _), (5, _), (33, _)] ⟨⟨_, rfl, Pr.le_refl _⟩, ⟨_, rfl, Pr.le_refl _⟩, ⟨_, rfl, Pr.le_refl _⟩, ⟨_, rfl, Pr.le_refl _⟩, trivial⟩ ?_
      refine Tr.cond rfl (fun h6 => ?_) (fun h6 => ?_)
      ·
        have q6 := Nrm.nrm h6
        refine Tr.seq ?_
        refine Tr.reg0 ?_
        refine Ch.op rfl rfl (by decide) (ok_move rfl (vl rfl)) ?_
        refine Ch.op rfl rfl (by decide) (ok_assign rfl (vl rfl)) ?_
        refine Ch.nil ?_
        refine Fin.go ?_
        refine Tr.ret ?_
        refine Fin.then_ret ?_
        refine Fin.ret1 rfl (OutW.bse _ _) rfl ?_
        · exfalso; omega
      ·
        have q6 := Nrm.nrm h6
        refine Tr.skip ?_
        refine Fin.go ?_
        refine Tr.seq ?_
        refine Tr.pad ?_
        refine Tr.regX mixed [none, none, none, none, some (0, 0, true, 39), none, none, some (39, 0, true, 42), none, none, none, some (42, 0, true, 46), some (46, 0, true, 4)] (by kernel_rfl) ?_
        refine Cx.op rfl rfl (by decide) (fun _ => ok_buildSlice (xs := []) (rows := []) rfl rfl Tryz.underlying27 sz42 z42 rfl (by decide) trivial (by decide)) ?_
        refine Cx.op rfl rfl (by decide) (fun _ => ok_move rfl (vl rfl)) ?_
        refine Cx.op rfl rfl (by decide) (fun _ => ok_move rfl (vl rfl)) ?_
        refine Cx.op rfl rfl (by decide) (fun _ => ok_sliceTo rfl Tryz.underlying27 sz42 (vl rfl) (vl rfl) (by omega) (by first | omega | (simp; omega))) ?_
        refine Cx.ef 0 rfl rfl (by decide) (ef_append rfl rfl (by decide) rfl Tryz.underlying27 sz42 by42 z42 rfl (by decide) ⟨_, rfl, full_le _ _⟩ (vl rfl) (by simp; unfold maxLen; omega) (by simp; omega) (appR_full (by exact List.Mem.head _) (vl rfl))) ?_
        refine Cx.op rfl rfl (by decide) (fun _ => ok_loadA rfl agg42 sz42 (vl rfl) rfl rfl) ?_
        refine Cx.op rfl rfl (by decide) (fun _ => ok_buildSlice (xs := [.tmp 40]) (rows := [_]) rfl rfl Tryz.underlying27 sz42 z42 rfl (by decide) ⟨⟨(by exact rfl), (VL.le (vl rfl) (agg_cellsP _))⟩, trivial⟩ (by decide)) ?_
        refine Cx.ef 0 rfl rfl (by decide) (ef_append rfl rfl (by decide) rfl Tryz.underlying27 sz42 by42 z42 rfl (by decide) (vl rfl) ⟨_, rfl, full_le _ _⟩ (by simp; unfold maxLen; omega) (by simp; omega) appR_slot) ?_
        refine Cx.op rfl rfl (by decide) (fun _ => ok_move rfl (vl rfl)) ?_
        refine Cx.op rfl rfl (by decide) (fun _ => ok_move rfl (vl rfl)) ?_
        refine Cx.op rfl rfl (by decide) (fun _ => ok_sliceFrom rfl Tryz.underlying27 sz42 (vl rfl) (vl rfl) (by omega) (by first | omega | (simp; omega))) ?_
        refine Cx.ef 0 rfl rfl (by decide) (ef_append rfl rfl (by decide) rfl Tryz.underlying27 sz42 by42 z42 rfl (by decide) (vl rfl) (vl rfl) (by simp; unfold maxLen; omega) (by simp; omega) appR_slot) ?_
        refine Cx.ef 0 rfl rfl (by decide) (ef_move rfl rfl (by decide) rfl (vl rfl)) ?_
        refine Cx.nil ⟨rfl, ?_⟩
        refine FinX.open_ 0 4 rfl rfl (fun v3 => ?_)
        refine FinX.done (AllC.cons (AllC.map _)) ?_
        refine Fin.go ?_
        refine Tr.weak [(4, _)] ⟨⟨_, rfl, Pr.le_refl _⟩, trivial⟩ ?_
        refine Tr.ret ?_
        refine Fin.ret1 rfl (OutW.bse _ _) rfl ?_
        · exfalso; omega
    ·
      have q5 := Nrm.nrm h5
      refine Ch.no rfl rfl rfl (ne_true h5) rfl (by decide) ?_
      refine Ch.no rfl rfl rfl (ne_true h5) rfl (by decide) ?_
      refine Ch.no rfl rfl rfl (ne_true h5) rfl (by decide) ?_
      refine Ch.no rfl rfl rfl (ne_true h5) rfl (by decide) ?_
      refine Ch.no rfl rfl rfl (ne_true h5) rfl (by decide) ?_
      refine Ch.no rfl rfl rfl (ne_true h5) rfl (by decide) ?_
      refine Ch.no rfl rfl rfl (ne_true h5) rfl (by decide) ?_
      refine Ch.no rfl rfl rfl (ne_true h5) rfl (by decide) ?_
      refine Ch.op rfl rfl (by decide) (ok_pick_f rfl (vl rfl) h5 (vl rfl)) ?_
      refine Ch.nil ?_
      refine Fin.go ?_
      refine Tr.weak [(0, _), (3, _), (5, _), (33, _)] ⟨⟨_, rfl, Pr.le_refl _⟩, ⟨_, rfl, Pr.le_refl _⟩, ⟨_, rfl, Pr.le_refl _⟩, ⟨_, rfl, Pr.le_refl _⟩, trivial⟩ ?_
      refine Tr.cond rfl (fun h => nomatch h) (fun _ => ?_)
      refine Tr.skip ?_
      refine Fin.go ?_
      refine Tr.seq ?_
      refine Tr.pad ?_
      refine Tr.regX mixed [none, none, none, none, some (0, 0, true, 39), none, none, some (39, 0, true, 42), none, none, none, some (42, 0, true, 46), some (46, 0, true, 4)] (by kernel_rfl) ?_
      refine Cx.op rfl rfl (by decide) (fun _ => ok_buildSlice (xs := []) (rows := []) rfl rfl Tryz.underlying27 sz42 z42 rfl (by decide) trivial (by decide)) ?_
      refine Cx.op rfl rfl (by decide) (fun _ => ok_move rfl (vl rfl)) ?_
      refine Cx.op rfl rfl (by decide) (fun _ => ok_move rfl (vl rfl)) ?_
      refine Cx.op rfl rfl (by decide) (fun _ => ok_sliceTo rfl Tryz.underlying27 sz42 (vl rfl) (vl rfl) (by omega) (by first | omega | (simp; omega))) ?_
      refine Cx.ef 0 rfl rfl (by decide) (ef_append rfl rfl (by decide) rfl Tryz.underlying27 sz42 by42 z42 rfl (by decide) ⟨_, rfl, full_le _ _⟩ (vl rfl) (by simp; unfold maxLen; omega) (by simp; omega) (appR_full (by exact List.Mem.head _) (vl rfl))) ?_
      refine Cx.op rfl rfl (by decide) (fun _ => ok_loadA rfl agg42 sz42 (vl rfl) rfl rfl) ?_
      refine Cx.op rfl rfl (by decide) (fun _ => ok_buildSlice (xs := [.tmp 40]) (rows := [_]) rfl rfl Tryz.underlying27 sz42 z42 rfl (by decide) ⟨⟨(by exact rfl), (VL.le (vl rfl) (agg_cellsP _))⟩, trivial⟩ (by decide)) ?_
      refine Cx.ef 0 rfl rfl (by decide) (ef_append rfl rfl (by decide) rfl Tryz.underlying27 sz42 by42 z42 rfl (by decide) (vl rfl) ⟨_, rfl, full_le _ _⟩ (by simp; unfold maxLen; omega) (by simp; omega) appR_slot) ?_
      refine Cx.op rfl rfl (by decide) (fun _ => ok_move rfl (vl rfl)) ?_
      refine Cx.op rfl rfl (by decide) (fun _ => ok_move rfl (vl rfl)) ?_
      refine Cx.op rfl rfl (by decide) (fun _ => ok_sliceFrom rfl Tryz.underlying27 sz42 (vl rfl) (vl rfl) (by omega) (by first | omega | (simp; omega))) ?_
      refine Cx.ef 0 rfl rfl (by decide) (ef_append rfl rfl (by decide) rfl Tryz.underlying27 sz42 by42 z42 rfl (by decide) (vl rfl) (vl rfl) (by simp; unfold maxLen; omega) (by simp; omega) appR_slot) ?_
      refine Cx.ef 0 rfl rfl (by decide) (ef_move rfl rfl (by decide) rfl (vl rfl)) ?_
      refine Cx.nil ⟨rfl, ?_⟩
      refine FinX.open_ 0 4 rfl rfl (fun v4 => ?_)
      refine FinX.done (AllC.cons (AllC.map _)) ?_
      refine Fin.go ?_
      refine Tr.weak [(4, _)] ⟨⟨_, rfl, Pr.le_refl _⟩, trivial⟩ ?_
      refine Tr.ret ?_
      refine Fin.ret1 rfl (OutW.bse _ _) rfl ?_
      · rw [putF_new (kF_eq hk hgt (.inl (by omega))) (.inl (by omega))]; exact Pr.le_trans (andIs_le _ _) (Pr.le_of_eq (by show slice 11 _ = slice 11 _; rw [Int.toNat_natCast, List.map_append, List.map_append, List.map_take, List.map_drop, List.nil_append]; rfl))
theorem e_put : Entry Tryz.prog 59 := ⟨_, Tryz.func59, rfl, rfl⟩

theorem kF_le (l : List Fnd) (f : Fnd) : kF l f ≤ l.length := by
  unfold kF
  have := (List.dropWhile_sublist (l := l.reverse) (fun x => decide (0 < ordF x f))).length_le
  simpa using this
theorem putF_len (l : List Fnd) (f : Fnd) : (putF l f).length ≤ l.length + 1 := by
  have := kF_le l f
  unfold putF; split
  · omega
  · simp; omega
theorem fold_len : ∀ (l acc : List Fnd), (l.foldl putF acc).length ≤ acc.length + l.length
  | [], acc => by simp
  | f :: l, acc => by
    have h1 := fold_len l (putF acc f)
    have h2 := putF_len acc f
    rw [List.foldl_cons, List.length_cons]; omega
theorem fold_take {l : List Fnd} {k : Nat} {x : Fnd} (hx : l[k]? = some x) : putF ((l.take k).foldl putF []) x = (l.take (k + 1)).foldl putF [] := by
  rw [List.take_add_one, hx, List.foldl_append]; rfl
theorem fold_len' (l : List Fnd) (k : Nat) : ((l.take k).foldl putF []).length ≤ k := by
  have := fold_len (l.take k) []
  have h2 := List.length_take_le k l
  simp at this; omega

set_option maxRecDepth 20000 in
theorem w_R14Norm {l : List Fnd} (hc : ∀ f ∈ l, checkF f = true) (hl : l.length ≤ 400) : Fun Tryz.prog 34 [fnds l] (tup [fnds (l.foldl putF []), int 0]) := by
  refine Fun.of Tryz.func34 rfl rfl (by exact Nat.le_of_ble_eq_true rfl) fun M0 w0 => ?_
  refine Tr.seq ?_
  refine Tr.reg0 ?_
  refine Ch.op rfl rfl (by decide) (ok_assign rfl (vl rfl)) ?_
  refine Ch.op rfl rfl (by decide) (ok_assign rfl (vl rfl)) ?_
  refine Ch.nil ?_
  refine Fin.go ?_
  refine Tr.seq ?_
  refine Tr.seq ?_
  refine Tr.reg0 ?_
  refine Ch.op rfl rfl (by decide) (ok_assign rfl (vl rfl)) ?_
  refine Ch.nil ?_
  refine Fin.go ?_
  refine Tr.block ?_
  refine Tr.loopw [(0, _)] ⟨⟨_, rfl, Pr.le_refl _⟩, trivial⟩ (fun k : Nat => [(4, int ((k : Nat) : Int))]) (fun k : Nat => k ≤ (l).length) (fun k : Nat => (l).length - k) 0 (Nat.zero_le _) ⟨⟨_, rfl, Pr.le_refl _⟩, trivial⟩ ?_
  rintro k hle_k
  refine Tr.seq ?_
  refine Tr.seq ?_
  refine Tr.reg0 ?_
  refine Ch.op rfl rfl (by decide) (ok_move rfl (vl rfl)) ?_
  refine Ch.op rfl rfl (by decide) (ok_move rfl (vl rfl)) ?_
  first
    | refine Ch.op rfl rfl (by decide) (ok_lenm rfl Tryz.underlying27 (vl rfl)) ?_
    | refine Ch.op rfl rfl (by decide) (ok_len rfl Tryz.underlying27 (vl rfl)) ?_
  refine Ch.op rfl rfl (by decide) (ok_int rfl (vl rfl) (vl rfl) rfl) ?_
  refine Ch.nil ?_
  refine Fin.go ?_
  refine Tr.cond rfl (fun h1 => ?_) (fun h1 => ?_)
  ·
    have q1 := Nrm.nrm h1
    have hk_k : k < (l).length := lt_of_dec h1
    obtain ⟨x, hx_k⟩ := at_ hk_k
    refine Tr.skip ?_
    refine Fin.go ?_
    refine Tr.seq ?_
    refine Tr.block ?_
    refine Tr.seq ?_
    refine Tr.reg0 ?_
    refine Ch.op rfl rfl (by decide) (ok_move rfl (vl rfl)) ?_
    refine Ch.op rfl rfl (by decide) (ok_move rfl (vl rfl)) ?_
    refine Ch.op rfl rfl (by decide) (ok_indexAddr rfl Tryz.underlying27 sz42 (vl rfl) (vl rfl) (by omega) (by first | exact row_at (by assumption) | exact row_atI (by assumption) | assumption)) ?_
    refine Ch.op rfl rfl (by decide) (ok_loadA rfl agg42 sz42 (vl rfl) rfl rfl) ?_
    refine Ch.op rfl rfl (by decide) (ok_call rfl (w_R14Check) ⟨⟨_, rfl, Pr.le_refl _⟩, trivial⟩) ?_
    refine Ch.op rfl rfl (by decide) (ok_assign rfl (vl rfl)) ?_
    refine Ch.nil ?_
    refine Fin.go ?_
    refine Tr.seq ?_
    refine Tr.reg0 ?_
    refine Ch.op rfl rfl (by decide) (ok_move rfl (vl rfl)) ?_
    refine Ch.op rfl rfl (by decide) (ok_int rfl (vl rfl) (vl rfl) rfl) ?_
    refine Ch.nil ?_
    refine Fin.go ?_
    refine Tr.weak [(0, _), (4, _), (5, _), (20, _)] ⟨⟨_, rfl, Pr.le_refl _⟩, ⟨_, rfl, Pr.le_refl _⟩, ⟨_, rfl, Pr.le_refl _⟩, ⟨_, rfl, Pr.le_refl _⟩, trivial⟩ ?_
    refine Tr.cond rfl (fun h2 => ?_) (fun h2 => ?_)
    ·
      have q2 := Nrm.nrm h2
      exact absurd (if_pos (hc x (List.mem_of_getElem? hx_k))) q2
    ·
      have q2 := Nrm.nrm h2
      refine Tr.skip ?_
      refine Fin.block ?_
      refine Fin.go ?_
      refine Tr.reg0 ?_
      refine Ch.op rfl rfl (by decide) (ok_move rfl (vl rfl)) ?_
      first
        | (refine Ch.op rfl rfl (by decide) (ok_add rfl (vl rfl) (vl rfl) ?hin) ?_; case hin => unfold InI; omega)
        | refine Ch.op rfl rfl (by decide) (ok_int rfl (vl rfl) (vl rfl) rfl) ?_
      refine Ch.op rfl rfl (by decide) (ok_assign rfl (vl rfl)) ?_
      refine Ch.nil ?_
      exact Fin.fam_same (k + 1) ⟨hk_k, by omega⟩ ⟨⟨_, rfl, int_succ k⟩, ⟨_, rfl, Pr.le_refl _⟩, trivial⟩
  ·
    have q1 := Nrm.nrm h1
    have he_k : k = (l).length := by have := ge_of_dec h1; omega
    subst he_k
    refine Tr.exit ?_
    refine Fin.then_exit ?_
    refine Fin.then_exit ?_
    refine Fin.block_here ?_
    refine Fin.go ?_
    refine Tr.seq ?_
    refine Tr.reg0 ?_
    refine Ch.op rfl rfl (by decide) (ok_assign rfl (vl rfl)) ?_
    refine Ch.nil ?_
    refine Fin.go ?_
    refine Tr.seq ?_
    refine Tr.seq ?_
    refine Tr.reg0 ?_
    refine Ch.op rfl rfl (by decide) (ok_assign rfl (vl rfl)) ?_
    refine Ch.nil ?_
    refine Fin.go ?_
    refine Tr.block ?_
    refine Tr.loopw [(0, _)] ⟨⟨_, rfl, Pr.le_refl _⟩, trivial⟩ (fun m : Nat => [(7, int ((m : Nat) : Int)), (6, fnds ((l.take m).foldl putF []))]) (fun m : Nat => m ≤ (l).length) (fun m : Nat => (l).length - m) 0 (Nat.zero_le _) ⟨⟨_, rfl, Pr.le_refl _⟩, ⟨_, rfl, nil_slice 11⟩, trivial⟩ ?_
    rintro m hle_m
    refine Tr.seq ?_
    refine Tr.seq ?_
    refine Tr.reg0 ?_
    refine Ch.op rfl rfl (by decide) (ok_move rfl (vl rfl)) ?_
    refine Ch.op rfl rfl (by decide) (ok_move rfl (vl rfl)) ?_
    first
      | refine Ch.op rfl rfl (by decide) (ok_lenm rfl Tryz.underlying27 (vl rfl)) ?_
      | refine Ch.op rfl rfl (by decide) (ok_len rfl Tryz.underlying27 (vl rfl)) ?_
    refine Ch.op rfl rfl (by decide) (ok_int rfl (vl rfl) (vl rfl) rfl) ?_
    refine Ch.nil ?_
    refine Fin.go ?_
    refine Tr.cond rfl (fun h3 => ?_) (fun h3 => ?_)
    ·
      have q3 := Nrm.nrm h3
      have hk_m : m < (l).length := lt_of_dec h3
      obtain ⟨y, hx_m⟩ := at_ hk_m
      refine Tr.skip ?_
      refine Fin.go ?_
      refine Tr.seq ?_
      refine Tr.block ?_
      refine Tr.seq ?_
      refine Tr.reg0 ?_
      refine Ch.op rfl rfl (by decide) (ok_move rfl (vl rfl)) ?_
      refine Ch.op rfl rfl (by decide) (ok_move rfl (vl rfl)) ?_
      refine Ch.op rfl rfl (by decide) (ok_move rfl (vl rfl)) ?_
      refine Ch.op rfl rfl (by decide) (ok_indexAddr rfl Tryz.underlying27 sz42 (vl rfl) (vl rfl) (by omega) (by first | exact row_at (by assumption) | exact row_atI (by assumption) | assumption)) ?_
      refine Ch.op rfl rfl (by decide) (ok_loadA rfl agg42 sz42 (vl rfl) rfl rfl) ?_
      refine Ch.op rfl rfl (by decide) (ok_call rfl (w_put (l := (l.take m).foldl putF []) (f := y) (by have := fold_len' l m; omega)) ⟨⟨_, rfl, Pr.le_refl _⟩, ⟨_, rfl, Pr.le_refl _⟩, trivial⟩) ?_
      refine Ch.op rfl rfl (by decide) (ok_assign rfl (vl rfl)) ?_
      refine Ch.nil ?_
      refine Fin.go ?_
      refine Tr.weak [(0, _), (6, _), (7, _)] ⟨⟨_, rfl, Pr.le_refl _⟩, ⟨_, rfl, Pr.le_refl _⟩, ⟨_, rfl, Pr.le_refl _⟩, trivial⟩ ?_
      refine Tr.seq ?_
      refine Tr.reg0 ?_
      refine Ch.op rfl rfl (by decide) (ok_move rfl (vl rfl)) ?_
      first
        | refine Ch.op rfl rfl (by decide) (ok_lenm rfl Tryz.underlying27 (vl rfl)) ?_
        | refine Ch.op rfl rfl (by decide) (ok_len rfl Tryz.underlying27 (vl rfl)) ?_
      refine Ch.op rfl rfl (by decide) (ok_int rfl (vl rfl) (vl rfl) rfl) ?_
      refine Ch.nil ?_
      refine Fin.go ?_
      refine Tr.cond rfl (fun h4 => ?_) (fun h4 => ?_)
      ·
        have q4 := Nrm.nrm h4
        exfalso; rw [fold_take hx_m] at q4; have := fold_len' l (m + 1); omega
      ·
        have q4 := Nrm.nrm h4
        refine Tr.skip ?_
        refine Fin.block ?_
        refine Fin.go ?_
        refine Tr.reg0 ?_
        refine Ch.op rfl rfl (by decide) (ok_move rfl (vl rfl)) ?_
        first
          | (refine Ch.op rfl rfl (by decide) (ok_add rfl (vl rfl) (vl rfl) ?hin) ?_; case hin => unfold InI; omega)
          | refine Ch.op rfl rfl (by decide) (ok_int rfl (vl rfl) (vl rfl) rfl) ?_
        refine Ch.op rfl rfl (by decide) (ok_assign rfl (vl rfl)) ?_
        refine Ch.nil ?_
        exact Fin.fam_same (m + 1) ⟨hk_m, by omega⟩ ⟨⟨_, rfl, int_succ m⟩, ⟨_, rfl, Pr.le_of_eq (by rw [fold_take hx_m])⟩, ⟨_, rfl, Pr.le_refl _⟩, trivial⟩
    ·
      have q3 := Nrm.nrm h3
      have he_m : m = (l).length := by have := ge_of_dec h3; omega
      subst he_m
      refine Tr.exit ?_
      refine Fin.then_exit ?_
      refine Fin.then_exit ?_
      refine Fin.block_here ?_
      refine Fin.go ?_
      refine Tr.seq ?_
      refine Tr.reg0 ?_
      refine Ch.op rfl rfl (by decide) (ok_move rfl (vl rfl)) ?_
      refine Ch.op rfl rfl (by decide) (ok_assign rfl (vl rfl)) ?_
      refine Ch.op rfl rfl (by decide) (ok_assign rfl (vl rfl)) ?_
      refine Ch.nil ?_
      refine Fin.go ?_
      refine Tr.ret ?_
      refine Fin.ret2 rfl (OutW.bse _ _) rfl ?_ rfl ?_
      · exact Pr.le_of_eq (by rw [List.take_length])
      · first | exact Pr.le_refl _ | (refine int_eq ?_; simp_all; done) | (refine bool_eq ?_; simp_all; done) | (refine bool_eq ?_; simp_all; omega) | (refine int_eq ?_; omega)
theorem e_R14Norm : Entry Tryz.prog 34 := ⟨_, Tryz.func34, rfl, rfl⟩

theorem cmpI_swap (a b : Int) : cmpI b a = - cmpI a b := by unfold cmpI; by_cases h1 : a < b <;> by_cases h2 : b < a <;> simp [h1, h2] <;> omega
theorem orL_neg : ∀ l : List Int, orL (l.map fun x => -x) = - orL l
  | [] => rfl
  | a :: l => by
    have ih := orL_neg l
    show (if -a = 0 then orL (l.map fun x => -x) else -a) = - (if a = 0 then orL l else a)
    by_cases h : a = 0
    · rw [if_pos (by omega), if_pos h, ih]
    · rw [if_neg (by omega), if_neg h]
theorem ordF_swap (a b : Fnd) : ordF b a = - ordF a b := by
  unfold ordF
  rw [← orL_neg]
  unfold keysF
  simp only [List.map_cons, List.map_nil]
  rw [cmp_swap a.host b.host, cmp_swap a.subj b.subj, cmp_swap a.text b.text, cmpI_swap a.machine, cmpI_swap a.day, cmpI_swap a.kind, cmpI_swap a.alg, cmpI_swap a.bits, cmpI_swap a.num, cmpI_swap a.src, cmpI_swap a.conf]
theorem dropWhile_spec {β : Type} {p : β → Bool} : ∀ (l : List β), ∃ m, l = m ++ l.dropWhile p ∧ (∀ x ∈ m, p x = true) ∧ ∀ y r, l.dropWhile p = y :: r → p y = false
  | [] => ⟨[], rfl, by simp, fun y r h => by cases h⟩
  | a :: l => by
    by_cases h : p a = true
    · obtain ⟨m, h1, h2, h3⟩ := dropWhile_spec (p := p) l
      refine ⟨a :: m, ?_, ?_, ?_⟩
      · rw [List.dropWhile_cons_of_pos h, List.cons_append, ← h1]
      · intro x hx
        rcases List.mem_cons.1 hx with rfl | hx
        · exact h
        · exact h2 x hx
      · intro y r hy; rw [List.dropWhile_cons_of_pos h] at hy; exact h3 y r hy
    · refine ⟨[], ?_, by simp, ?_⟩
      · rw [List.dropWhile_cons_of_neg h]; rfl
      · intro y r hy; rw [List.dropWhile_cons_of_neg h] at hy; injection hy with h1 _; subst h1; simpa using h
theorem kF_spec (l : List Fnd) (f : Fnd) : (∀ y, l[kF l f]? = some y → 0 < ordF y f) ∧ (∀ x, 0 < kF l f → l[kF l f - 1]? = some x → ordF x f ≤ 0) := by
  obtain ⟨m, h1, h2, h3⟩ := dropWhile_spec (p := fun x => decide (0 < ordF x f)) l.reverse
  have hk : kF l f = (l.reverse.dropWhile fun x => decide (0 < ordF x f)).length := rfl
  generalize l.reverse.dropWhile (fun x => decide (0 < ordF x f)) = d at *
  have hl : l = d.reverse ++ m.reverse := by rw [← List.reverse_append, ← h1, List.reverse_reverse]
  refine ⟨fun y hy => ?_, fun x h0 hx => ?_⟩
  · rw [hk, hl, List.getElem?_append_right (by simp)] at hy
    have := h2 y (by have := List.mem_of_getElem? hy; simpa using this)
    simpa using this
  · cases d with
    | nil => rw [hk] at h0; cases h0
    | cons y r =>
      have hx2 : x = y := by
        rw [hk, hl, List.getElem?_append_left (by simp)] at hx
        rw [List.reverse_cons, List.getElem?_append_right (by simp)] at hx
        simpa using hx.symm
      have := h3 y r rfl
      rw [hx2]; simpa using this
theorem put_adj {l : List Fnd} (f : Fnd) (h : AdjF l) : AdjF (putF l f) := by
  obtain ⟨h1, h2⟩ := kF_spec l f
  have hk := kF_le l f
  unfold putF
  split
  · exact h
  · rename_i hn
    generalize kF l f = k at *
    have hlen : (l.take k).length = k := by rw [List.length_take]; omega
    intro j a b ha hb
    rw [List.append_assoc] at ha hb
    rcases Nat.lt_trichotomy (j + 1) k with hj | hj | hj
    · rw [List.getElem?_append_left (by omega), List.getElem?_take, if_pos (by omega)] at ha
      rw [List.getElem?_append_left (by omega), List.getElem?_take, if_pos (by omega)] at hb
      exact h j a b ha hb
    · rw [List.getElem?_append_left (by omega), List.getElem?_take, if_pos (by omega)] at ha
      rw [List.getElem?_append_right (by omega), hlen, show j + 1 - k = 0 by omega] at hb
      simp at hb; subst hb
      have ha' : l[k - 1]? = some a := by rw [show k - 1 = j by omega]; exact ha
      have h3 := h2 a (by omega) ha'
      rcases Int.lt_or_eq_of_le h3 with h4 | h4
      · exact h4
      · exact absurd ⟨by omega, by rw [ha']; simp [h4]⟩ hn
    · rcases Nat.eq_or_lt_of_le (Nat.le_of_lt_succ hj) with hj2 | hj2
      · rw [List.getElem?_append_right (by omega), hlen, show j - k = 0 by omega] at ha
        simp at ha; subst ha
        rw [List.getElem?_append_right (by omega), hlen, show j + 1 - k = 1 by omega] at hb
        simp at hb
        have := h1 b (by simpa using hb)
        rw [ordF_swap b f]; omega
      · rw [List.getElem?_append_right (by omega), hlen, show j - k = (j - k - 1) + 1 by omega] at ha
        rw [List.getElem?_append_right (by omega), hlen, show j + 1 - k = (j - k) + 1 by omega] at hb
        simp at ha hb
        exact h (j - 1) a b (by rw [show j - 1 = k + (j - k - 1) by omega]; exact ha) (by rw [show j - 1 + 1 = k + (j - k) by omega]; exact hb)
theorem put_mem {l : List Fnd} {f x : Fnd} (h : x ∈ putF l f) : x ∈ l ∨ x = f := by
  unfold putF at h
  split at h
  · exact .inl h
  · simp only [List.mem_append, List.mem_singleton] at h
    rcases h with (h | h) | h
    · exact .inl (List.mem_of_mem_take h)
    · exact .inr h
    · exact .inl (List.mem_of_mem_drop h)
theorem fold_adj : ∀ (l acc : List Fnd), AdjF acc → AdjF (l.foldl putF acc)
  | [], _, h => h
  | f :: l, acc, h => fold_adj l _ (put_adj f h)
theorem fold_mem : ∀ (l acc : List Fnd) {x : Fnd}, x ∈ l.foldl putF acc → x ∈ acc ∨ x ∈ l
  | [], _, _, h => .inl h
  | f :: l, acc, x, h => by
    rcases fold_mem l _ h with h1 | h1
    · rcases put_mem h1 with h2 | h2
      · exact .inl h2
      · exact .inr (by simp [h2])
    · exact .inr (List.mem_cons_of_mem _ h1)
theorem norm_ok {l : List Fnd} (hc : ∀ f ∈ l, checkF f = true) (hl : l.length ≤ 400) : NormP (l.foldl putF []) :=
  ⟨fun f hf => by rcases fold_mem l [] hf with h | h; exact absurd h (by simp); exact hc f h, fold_adj l [] (fun j a b h => by simp at h), by have := fold_len l []; simp at this; omega⟩

end Go.Proofs.YthmnoekgicggnaaGreat
