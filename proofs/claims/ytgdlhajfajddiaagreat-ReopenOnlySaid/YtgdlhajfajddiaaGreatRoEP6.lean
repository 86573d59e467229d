/-
  Part 6 of the texts that prove this claim, merged.
-/
import Derived.Test.YtgdlhajfajddiaaGreatRows
import Derived.Test.YtgdlhajfajddiaaGreatRoEP5
set_option linter.all false
namespace Go.Proofs.YtgdlhajfajddiaaGreat
open Go Go.RowKit Cp

def insF (x : List Fnd) (f : Fnd) (p : Nat) : List Fnd := x.take p ++ f :: x.drop p
def sg (p i : Nat) : Nat := if i < p then i else i + 1
def sgI (p : Nat) (v : Int) : Int := if v < p then v else v + 1
section
variable {x : List Fnd} {f : Fnd} {p : Nat} {gap : Int}
theorem insF_len (hp : p ≤ x.length) : (insF x f p).length = x.length + 1 := by unfold insF; simp; omega
theorem insF_lo (hp : p ≤ x.length) {i : Nat} (h : i < p) : (insF x f p)[i]? = x[i]? := by
  unfold insF
  rw [List.getElem?_append_left (by rw [List.length_take]; omega), List.getElem?_take, if_pos h]
theorem insF_mid (hp : p ≤ x.length) : (insF x f p)[p]? = some f := by
  unfold insF
  rw [List.getElem?_append_right (by rw [List.length_take]; omega), List.length_take, show p - min p x.length = 0 by omega]; rfl
theorem insF_hi (hp : p ≤ x.length) {i : Nat} (h : p ≤ i) : (insF x f p)[i + 1]? = x[i]? := by
  unfold insF
  rw [List.getElem?_append_right (by rw [List.length_take]; omega), List.length_take, show i + 1 - min p x.length = (i - p) + 1 by omega, List.getElem?_cons_succ, List.getElem?_drop]
  congr 1; omega
theorem insF_sg (hp : p ≤ x.length) (i : Nat) : (insF x f p)[sg p i]? = x[i]? := by
  unfold sg
  split
  · rename_i h; exact insF_lo hp h
  · exact insF_hi hp (by omega)
theorem sg_cases (p k : Nat) : k = p ∨ ∃ i, k = sg p i := by
  rcases Nat.lt_trichotomy k p with h | h | h
  · exact .inr ⟨k, by unfold sg; rw [if_pos h]⟩
  · exact .inl h
  · exact .inr ⟨k - 1, by unfold sg; rw [if_neg (by omega)]; omega⟩
theorem sg_lt {i j : Nat} : sg p i < sg p j ↔ i < j := by unfold sg; split <;> split <;> omega
theorem sg_inj {i j : Nat} : sg p i = sg p j ↔ i = j := by unfold sg; split <;> split <;> omega
theorem sgI_nat (i : Nat) : sgI p ((i : Nat) : Int) = ((sg p i : Nat) : Int) := by unfold sgI sg; split <;> split <;> omega
theorem sgI_neg {v : Int} (h : v < 0) : sgI p v = v := by unfold sgI; rw [if_pos (by omega)]
theorem sgI_neg_iff {v : Int} : sgI p v < 0 ↔ v < 0 := by unfold sgI; split <;> omega
theorem sgI_toNat {v : Int} (h : 0 ≤ v) : (sgI p v).toNat = sg p v.toNat := by unfold sgI sg; split <;> split <;> omega
theorem nearK_lo {g : Fnd} (hp : p ≤ x.length) : ∀ k, k ≤ p → nearK (insF x f p) g gap k = nearK x g gap k
  | 0, _ => rfl
  | k + 1, hk => by
    have ih := nearK_lo (g := g) hp k (by omega)
    have e := insF_lo (f := f) hp (show k < p by omega)
    cases hx : x[k]? with
    | none => rw [List.getElem?_eq_none_iff] at hx; omega
    | some b =>
      rw [hx] at e
      by_cases hs : skipN g b gap = true
      · rw [nearK_skip e hs, nearK_skip hx hs, ih]
      · have hs : skipN g b gap = false := by simpa using hs
        by_cases h0 : nearK x g gap k < 0
        · rw [nearK_first e hs (by rw [ih]; exact h0), nearK_first hx hs h0]
        · rcases nearK_in x g gap k with h1 | ⟨h1, h2, c, hc, _⟩
          · omega
          · have e2 := insF_lo (f := f) hp (show (nearK x g gap k).toNat < p by omega)
            rw [hc] at e2
            rw [nearK_two e hs (by rw [ih]; exact h0) (by rw [ih]; exact e2), nearK_two hx hs h0 hc, ih]
theorem nearK_hi {g : Fnd} (hp : p ≤ x.length) (hf : skipN g f gap = true) : ∀ k, p ≤ k → k ≤ x.length → nearK (insF x f p) g gap (k + 1) = sgI p (nearK x g gap k) := by
  intro k hk hkl
  induction k with
  | zero =>
    have hp0 : p = 0 := by omega
    subst hp0
    rw [nearK_skip (insF_mid hp) hf]
    show (-1 : Int) = sgI 0 (-1)
    rw [sgI_neg (by omega)]
  | succ k ih =>
    rcases Nat.lt_or_eq_of_le hk with h1 | h1
    · have ih := ih (by omega) (by omega)
      have e := insF_hi (f := f) hp (show p ≤ k by omega)
      obtain ⟨b, hx⟩ := at_ (l := x) (k := k) (by omega)
      rw [hx] at e
      by_cases hs : skipN g b gap = true
      · rw [nearK_skip e hs, nearK_skip hx hs, ih]
      · have hs : skipN g b gap = false := by simpa using hs
        have hcast : (((k + 1 : Nat)) : Int) = sgI p ((k : Nat) : Int) := by unfold sgI; rw [if_neg (by omega)]; omega
        by_cases h0 : nearK x g gap k < 0
        · rw [nearK_first e hs (by rw [ih]; exact sgI_neg_iff.2 h0), nearK_first hx hs h0, hcast]
        · rcases nearK_in x g gap k with h2 | ⟨h2, h3, c, hc, _⟩
          · omega
          · have e2 : (insF x f p)[(nearK (insF x f p) g gap (k + 1)).toNat]? = some c := by rw [ih, sgI_toNat h2, insF_sg hp, hc]
            rw [nearK_two e hs (by rw [ih, sgI_neg_iff]; exact h0) e2, nearK_two hx hs h0 hc, ih, hcast]
            split <;> rfl
    · rw [← h1, nearK_skip (insF_mid hp) hf, nearK_lo hp p (Nat.le_refl _)]
      have hin := nearK_in x g gap p
      unfold sgI
      rw [if_pos (by omega)]
theorem near_ins {g : Fnd} (hp : p ≤ x.length) (hf : skipN g f gap = true) : near (insF x f p) g gap = sgI p (near x g gap) := by
  show nearK _ _ _ (insF x f p).length = _
  rw [insF_len hp]; exact nearK_hi hp hf x.length hp (Nat.le_refl _)
theorem lastM_lo {m : Int} (hp : p ≤ x.length) : ∀ k, k ≤ p → lastM (insF x f p) m k = lastM x m k
  | 0, _ => rfl
  | k + 1, hk => by unfold lastM; rw [insF_lo hp (show k < p by omega), lastM_lo hp k (by omega)]
theorem lastM_sg {m : Int} (hp : p ≤ x.length) (hm : ¬ f.machine = m) (i : Nat) : lastM (insF x f p) m (sg p i) = sgI p (lastM x m i) := by
  unfold sg
  split
  · rename_i h
    rw [lastM_lo hp i (by omega)]
    have := lastM_in x m i
    unfold sgI; rw [if_pos (by omega)]
  · rename_i h
    have hpi : p ≤ i := by omega
    clear h
    induction i with
    | zero =>
      have hp0 : p = 0 := by omega
      subst hp0
      show (if ((insF x f 0)[0]?).map (·.machine) = some m then ((0 : Nat) : Int) else -1) = sgI 0 (-1)
      rw [insF_mid hp, if_neg (by simpa using hm), sgI_neg (by omega)]
    | succ i ih =>
      rcases Nat.lt_or_eq_of_le hpi with h1 | h1
      · have ih := ih (by omega)
        show (if ((insF x f p)[i + 1]?).map (·.machine) = some m then ((i + 1 : Nat) : Int) else lastM (insF x f p) m (i + 1)) = sgI p (if (x[i]?).map (·.machine) = some m then ((i : Nat) : Int) else lastM x m i)
        rw [insF_hi hp (by omega), ih]
        split
        · unfold sgI; rw [if_neg (by omega)]; omega
        · rfl
      · rw [← h1]
        show (if ((insF x f p)[p]?).map (·.machine) = some m then ((p : Nat) : Int) else lastM (insF x f p) m p) = _
        rw [insF_mid hp, if_neg (by simpa using hm), lastM_lo hp p (Nat.le_refl _)]
        have := lastM_in x m p
        unfold sgI; rw [if_pos (by omega)]
theorem skip_host {g : Fnd} (h : ¬ g.host = f.host) : skipN g f gap = true := skip_yes (.inr (.inl fun e => h e.symm))
/-- Of another host, or with a machine: what it is of stays. -/
theorem mOf_ins {i : Nat} {g : Fnd} (hp : p ≤ x.length) (hg : x[i]? = some g) (h : ¬ g.machine = 0 ∨ ¬ g.host = f.host) : mOf (insF x f p) gap (sg p i) = mOf x gap i := by
  have hg' : (insF x f p)[sg p i]? = some g := by rw [insF_sg hp, hg]
  by_cases hm : g.machine = 0
  · have hh : ¬ g.host = f.host := by rcases h with h | h; exact absurd hm h; exact h
    have hn := near_ins (gap := gap) (x := x) hp (skip_host hh)
    rcases Int.lt_or_le (near x g gap) 0 with h0 | h0
    · rw [mOf_loose hg hm h0, mOf_loose hg' hm (by rw [hn, sgI_neg_iff]; exact h0)]
    · obtain ⟨_, b, hb, _⟩ := near_get h0
      have hb' : (insF x f p)[(near (insF x f p) g gap).toNat]? = some b := by rw [hn, sgI_toNat h0, insF_sg hp, hb]
      have h0' : 0 ≤ near (insF x f p) g gap := by
        rcases Int.lt_or_le (near (insF x f p) g gap) 0 with h9 | h9
        · rw [hn, sgI_neg_iff] at h9; omega
        · exact h9
      rw [mOf_near hg hm h0 hb, mOf_near hg' hm h0' hb']
  · rw [mOf_own hg hm, mOf_own hg' hm]
end
/-- It has neither the host nor the machine of f. -/
structure Far (f g : Fnd) : Prop where
  host : ¬ g.host = f.host
  mach : f.machine = 0 ∨ ¬ g.machine = f.machine
section
variable {x : List Fnd} {f : Fnd} {p : Nat} {gap : Int}
theorem edge_far (hp : p ≤ x.length) (hx : AdjF x) (hy : AdjF (insF x f p)) {i : Nat} {g : Fnd} (hg : x[i]? = some g) (h : Far f g) : edgeOf (insF x f p) gap (sg p i) = sgI p (edgeOf x gap i) := by
  have hg' : (insF x f p)[sg p i]? = some g := by rw [insF_sg hp, hg]
  by_cases hm : g.machine = 0
  · have hn := near_ins (gap := gap) (x := x) hp (skip_host h.host)
    rcases Int.lt_or_le (near x g gap) 0 with h0 | h0
    · have h0' : near (insF x f p) g gap < 0 := by rw [hn, sgI_neg_iff]; exact h0
      rw [edge_loose hg hm h0, edge_loose hg' hm h0']
      have hny : ∀ j e, x[j]? = some e → nextTo (insF x f p) gap (sg p j) (sg p i) = nextTo x gap j i := by
        intro j e he
        unfold nextTo
        rw [insF_sg hp, insF_sg hp]
      by_cases hq : 0 ≤ prevK x gap i ∧ nextTo x gap (prevK x gap i).toNat i = true
      · rw [if_pos hq]
        rcases prevK_in x gap i with h1 | ⟨h1, h2, h3⟩
        · omega
        obtain ⟨e, he⟩ := at_ (l := x) (k := (prevK x gap i).toNat) (by have := lt_of_atX hg; omega)
        have hne : e.host = g.host := by
          have := hq.2
          unfold nextTo at this
          rw [he, hg] at this
          exact (of_decide_eq_true this).1
        have he0 : mOf (insF x f p) gap (sg p (prevK x gap i).toNat) = 0 := by rw [mOf_ins hp he (.inr (by rw [hne]; exact h.host))]; exact h3
        have hmx := prevK_max (l := insF x f p) (gap := gap) (sg p i) (sg p (prevK x gap i).toNat) (sg_lt.2 h2) he0
        have hq' : prevK (insF x f p) gap (sg p i) = ((sg p (prevK x gap i).toNat : Nat) : Int) := by
          rcases prevK_in (insF x f p) gap (sg p i) with h4 | ⟨h4, h5, h6⟩
          · omega
          rcases Nat.lt_or_eq_of_le (show sg p (prevK x gap i).toNat ≤ (prevK (insF x f p) gap (sg p i)).toNat by omega) with h7 | h7
          · exfalso
            rcases sg_cases p (prevK (insF x f p) gap (sg p i)).toNat with h8 | ⟨j, h8⟩
            · rw [h8] at h5 h7
              exact h.host (norm_hosts hy (by rw [insF_sg hp, he]) (insF_mid hp) hg' h7 h5 hne).symm
            · rw [h8] at h5 h6 h7
              have h9 := sg_lt.1 h5
              have h10 := sg_lt.1 h7
              obtain ⟨d, hd⟩ := at_ (l := x) (k := j) (by have := lt_of_atX hg; omega)
              have hdh := norm_hosts hx he hd hg h10 h9 hne
              rw [mOf_ins hp hd (.inr (by rw [hdh]; exact h.host))] at h6
              have := prevK_max (l := x) (gap := gap) i j h9 h6
              omega
          · omega
        have hpe : ((sg p (prevK x gap i).toNat : Nat) : Int) = sgI p (prevK x gap i) := by rw [← sgI_nat]; congr 1; omega
        rw [hq', Int.toNat_natCast, hny _ e he, if_pos ⟨by omega, hq.2⟩, hpe]
      · rw [if_neg hq, sgI_neg (by omega), if_neg]
        rintro ⟨h1, h2⟩
        rcases prevK_in (insF x f p) gap (sg p i) with h4 | ⟨h4, h5, h6⟩
        · omega
        rcases sg_cases p (prevK (insF x f p) gap (sg p i)).toNat with h8 | ⟨j, h8⟩
        · rw [h8] at h2
          unfold nextTo at h2
          rw [insF_mid hp, hg'] at h2
          exact h.host (of_decide_eq_true h2).1.symm
        · rw [h8] at h2 h5 h6
          have h9 := sg_lt.1 h5
          obtain ⟨d, hd⟩ := at_ (l := x) (k := j) (by have := lt_of_atX hg; omega)
          rw [hny j d hd] at h2
          have hdh : d.host = g.host := by
            have := h2
            unfold nextTo at this
            rw [hd, hg] at this
            exact (of_decide_eq_true this).1
          have hd0 := h6
          rw [mOf_ins hp hd (.inr (by rw [hdh]; exact h.host))] at hd0
          have hjq := prevK_max (l := x) (gap := gap) i j h9 hd0
          rcases prevK_in x gap i with k1 | ⟨k1, k2, k3⟩
          · omega
          rcases Nat.lt_or_eq_of_le (show j ≤ (prevK x gap i).toNat by omega) with k4 | k4
          · obtain ⟨c, hc⟩ := at_ (l := x) (k := (prevK x gap i).toNat) (by have := lt_of_atX hg; omega)
            have hch := norm_hosts hx hd hc hg k4 k2 hdh
            have hc0 : mOf (insF x f p) gap (sg p (prevK x gap i).toNat) = 0 := by rw [mOf_ins hp hc (.inr (by rw [hch]; exact h.host))]; exact k3
            have hmx := prevK_max (l := insF x f p) (gap := gap) (sg p i) (sg p (prevK x gap i).toNat) (sg_lt.2 k2) hc0
            have := sg_lt (p := p).2 k4
            omega
          · exact hq ⟨k1, by rw [← k4]; exact h2⟩
    · have h0' : ¬ near (insF x f p) g gap < 0 := by rw [hn, sgI_neg_iff]; omega
      rw [edge_near hg hm (by omega), edge_near hg' hm h0', hn]
  · have hfm : ¬ f.machine = g.machine := by
      rcases h.mach with h1 | h1
      · rw [h1]; exact fun e => hm e.symm
      · exact fun e => h1 e.symm
    rw [edge_own hg hm, edge_own hg' hm, lastM_sg hp hfm]
theorem RR_key {l : List Fnd} {gap : Int} {key : Nat → Nat} : ∀ n, (∀ k, k < n → 0 ≤ edgeOf l gap k → key k = key (edgeOf l gap k).toNat) → ∀ a b, RR l gap n a = RR l gap n b → key a = key b
  | 0, _, _, _, h => by have h : _ = _ := h; exact congrArg _ h
  | n + 1, hk, a, b, h => by
    have ih := RR_key n (fun k h1 h2 => hk k (by omega) h2)
    unfold RR at h
    split at h
    · exact ih a b h
    · exact joinR_sound ih (hk n (by omega) (by omega)) a b h
theorem edge_in {l : List Fnd} {gap : Int} {k : Nat} (hk : k < l.length) (h : 0 ≤ edgeOf l gap k) : (edgeOf l gap k).toNat < l.length := by
  obtain ⟨f, hf⟩ := at_ hk
  by_cases h0 : f.machine = 0
  · by_cases hnr : near l f gap < 0
    · rw [edge_loose hf h0 hnr] at h ⊢
      split at h
      · rename_i hc
        rw [if_pos hc]
        rcases prevK_in l gap k with h1 | ⟨_, h2, _⟩ <;> omega
      · omega
    · rw [edge_near hf h0 hnr]
      exact (near_get (f := f) (gap := gap) (l := l) (by omega)).1
  · rw [edge_own hf h0]
    rcases lastM_in l f.machine k with h1 | ⟨_, h2, _⟩ <;> omega
/-- The host or the machine that an edge goes by. -/
theorem edge_by {l : List Fnd} {gap : Int} {k : Nat} {g : Fnd} (hg : l[k]? = some g) (h : 0 ≤ edgeOf l gap k) : ∃ e, l[(edgeOf l gap k).toNat]? = some e ∧ ((¬ g.machine = 0 ∧ e.machine = g.machine) ∨ (g.machine = 0 ∧ e.host = g.host)) := by
  by_cases h0 : g.machine = 0
  · by_cases hnr : near l g gap < 0
    · rw [edge_loose hg h0 hnr] at h ⊢
      split at h
      · rename_i hc
        rw [if_pos hc]
        rcases prevK_in l gap k with h1 | ⟨_, h2, _⟩
        · omega
        obtain ⟨e, he⟩ := at_ (l := l) (k := (prevK l gap k).toNat) (by have := lt_of_atX hg; omega)
        refine ⟨e, he, .inr ⟨h0, ?_⟩⟩
        have := hc.2
        unfold nextTo at this
        rw [he, hg] at this
        exact (of_decide_eq_true this).1
      · omega
    · rw [edge_near hg h0 hnr]
      obtain ⟨_, e, he, _, h3, _⟩ := near_get (f := g) (gap := gap) (l := l) (by omega)
      exact ⟨e, he, .inr ⟨h0, h3⟩⟩
  · rw [edge_own hg h0] at h ⊢
    rcases lastM_in l g.machine k with h1 | ⟨_, h2, e, he, h3⟩
    · omega
    · exact ⟨e, he, .inl ⟨h0, h3⟩⟩
/-- An entity that f does not touch is one of the longer list. -/
theorem late_class (hp : p ≤ x.length) (hx : AdjF x) (hy : AdjF (insF x f p)) {r : Nat} (hr : r < x.length) (hrr : rootS x gap r = r) (hfar : ∀ i g, x[i]? = some g → rootS x gap i = r → Far f g) (k : Nat) (hk : k < (insF x f p).length) : rootS (insF x f p) gap k = sg p r ↔ ∃ i, k = sg p i ∧ i < x.length ∧ rootS x gap i = r := by
  have hyl := insF_len (f := f) hp
  -- all of it are joined
  have hB : ∀ i, i < x.length → rootS x gap i = r → RR (insF x f p) gap (insF x f p).length (sg p i) = RR (insF x f p) gap (insF x f p).length (sg p r) := by
    intro i hi hir
    classical
    have key : ∀ n, n ≤ x.length → ∀ a b, RR x gap n a = RR x gap n b → (rootS x gap a = r → a < x.length → b < x.length → RR (insF x f p) gap (insF x f p).length (sg p a) = RR (insF x f p) gap (insF x f p).length (sg p b)) := by
      intro n hn a b hab har ha hb
      have hkey := RR_key (l := x) (gap := gap) (key := fun a => if rootS x gap a = r ∧ a < x.length then RR (insF x f p) gap (insF x f p).length (sg p a) else 0) n (fun k hk he => ?_) a b hab
      · have hbr : rootS x gap b = r := by rw [← RR_sound x gap n a b hab]; exact har
        have h1 : (if rootS x gap a = r ∧ a < x.length then RR (insF x f p) gap (insF x f p).length (sg p a) else 0) = if rootS x gap b = r ∧ b < x.length then RR (insF x f p) gap (insF x f p).length (sg p b) else 0 := hkey
        rw [if_pos ⟨har, ha⟩, if_pos ⟨hbr, hb⟩] at h1; exact h1
      · have hkl : k < x.length := by omega
        have hel := edge_in hkl he
        have hes := edge_sound he
        by_cases hkr : rootS x gap k = r
        · obtain ⟨g, hg⟩ := at_ hkl
          have hef := edge_far (gap := gap) hp hx hy hg (hfar k g hg hkr)
          show (if rootS x gap k = r ∧ k < x.length then _ else 0) = if rootS x gap (edgeOf x gap k).toNat = r ∧ _ then _ else 0
          rw [if_pos ⟨hkr, hkl⟩, if_pos ⟨by rw [← hes]; exact hkr, hel⟩]
          have hge : 0 ≤ edgeOf (insF x f p) gap (sg p k) := by
            rcases Int.lt_or_le (edgeOf (insF x f p) gap (sg p k)) 0 with h9 | h9
            · rw [hef, sgI_neg_iff] at h9; omega
            · exact h9
          have hsk : sg p k < (insF x f p).length := by rw [hyl]; unfold sg; split <;> omega
          rw [RR_edge hsk hge, hef, sgI_toNat he]
        · show (if rootS x gap k = r ∧ k < x.length then _ else 0) = if rootS x gap (edgeOf x gap k).toNat = r ∧ _ then _ else 0
          rw [if_neg (fun h => hkr h.1), if_neg (fun h => hkr (by rw [hes]; exact h.1))]
    exact key x.length (Nat.le_refl _) i r (by rw [RR_eq hi, RR_eq hr, hir, hrr]) hir hi hr
  -- nothing else is
  have hA : ∀ a b, RR (insF x f p) gap (insF x f p).length a = RR (insF x f p) gap (insF x f p).length b → ((∃ i, a = sg p i ∧ i < x.length ∧ rootS x gap i = r) ↔ ∃ i, b = sg p i ∧ i < x.length ∧ rootS x gap i = r) := by
    classical
    intro a b hab
    have hkey := RR_key (l := insF x f p) (gap := gap) (key := fun a => if ∃ i, a = sg p i ∧ i < x.length ∧ rootS x gap i = r then 1 else 0) (insF x f p).length (fun k hk he => ?_) a b hab
    · have h1 : (if ∃ i, a = sg p i ∧ i < x.length ∧ rootS x gap i = r then 1 else 0) = (if ∃ i, b = sg p i ∧ i < x.length ∧ rootS x gap i = r then 1 else 0 : Nat) := hkey
      by_cases ha : ∃ i, a = sg p i ∧ i < x.length ∧ rootS x gap i = r <;> by_cases hb : ∃ i, b = sg p i ∧ i < x.length ∧ rootS x gap i = r
      · exact ⟨fun _ => hb, fun _ => ha⟩
      · rw [if_pos ha, if_neg hb] at h1; omega
      · rw [if_neg ha, if_pos hb] at h1; omega
      · exact ⟨fun h => absurd h ha, fun h => absurd h hb⟩
    · have hiff : (∃ i, k = sg p i ∧ i < x.length ∧ rootS x gap i = r) ↔ ∃ i, (edgeOf (insF x f p) gap k).toNat = sg p i ∧ i < x.length ∧ rootS x gap i = r := by
        constructor
        · rintro ⟨i, rfl, hi, hir⟩
          obtain ⟨g, hg⟩ := at_ hi
          have hef := edge_far (gap := gap) hp hx hy hg (hfar i g hg hir)
          have hxe : 0 ≤ edgeOf x gap i := by
            rcases Int.lt_or_le (edgeOf x gap i) 0 with h9 | h9
            · rw [hef, sgI_neg h9] at he; omega
            · exact h9
          exact ⟨(edgeOf x gap i).toNat, by rw [hef, sgI_toNat hxe], edge_in hi hxe, by rw [← edge_sound hxe]; exact hir⟩
        · rintro ⟨e, hee, hel, her⟩
          obtain ⟨d, hd⟩ := at_ hel
          have hdf := hfar e d hd her
          obtain ⟨g, hg⟩ := at_ hk
          obtain ⟨d', hd', hby⟩ := edge_by hg he
          rw [hee, insF_sg hp, hd] at hd'
          cases hd'
          rcases sg_cases p k with h8 | ⟨j, h8⟩
          · subst h8
            rw [insF_mid hp] at hg
            cases hg
            exfalso
            rcases hby with ⟨h1, h2⟩ | ⟨_, h2⟩
            · rcases hdf.mach with h3 | h3
              · exact h1 h3
              · exact h3 h2
            · exact hdf.host h2
          · have hgx : x[j]? = some g := by rw [h8, insF_sg hp] at hg; exact hg
            have hjl := lt_of_atX hgx
            refine ⟨j, h8, hjl, ?_⟩
            rcases hby with ⟨h1, h2⟩ | ⟨h1, h2⟩
            · have := RR_machine' (l := x) (gap := gap) h1 hd hgx h2 rfl
              rw [RR_eq hel, RR_eq hjl] at this
              rw [← this]; exact her
            · have hgf : Far f g := ⟨by rw [← h2]; exact hdf.host, by
                rcases Classical.em (f.machine = 0) with h3 | h3
                · exact .inl h3
                · exact .inr (by rw [h1]; exact fun e => h3 e.symm)⟩
              have hef := edge_far (gap := gap) hp hx hy hgx hgf
              rw [← h8] at hef
              have hxe : 0 ≤ edgeOf x gap j := by
                rcases Int.lt_or_le (edgeOf x gap j) 0 with h9 | h9
                · rw [hef, sgI_neg h9] at he; omega
                · exact h9
              rw [hef, sgI_toNat hxe, sg_inj] at hee
              rw [edge_sound hxe, hee]; exact her
      show (if _ then 1 else 0) = if _ then 1 else (0 : Nat)
      by_cases h9 : ∃ i, k = sg p i ∧ i < x.length ∧ rootS x gap i = r
      · rw [if_pos h9, if_pos (hiff.1 h9)]
      · rw [if_neg h9, if_neg (fun h => h9 (hiff.2 h))]
  have hsr : sg p r < (insF x f p).length := by rw [hyl]; unfold sg; split <;> omega
  -- the least of it
  have hroot : rootS (insF x f p) gap (sg p r) = sg p r := by
    have hle := rootS_le (insF x f p) gap (sg p r)
    have hid := rootS_idem (l := insF x f p) (gap := gap) hsr
    have h1 := (hA (rootS (insF x f p) gap (sg p r)) (sg p r) (by rw [RR_eq (by omega), RR_eq hsr]; exact hid)).2 ⟨r, rfl, hr, hrr⟩
    obtain ⟨i, hi1, hi2, hi3⟩ := h1
    have hri : r ≤ i := by have := rootS_le x gap i; omega
    have : ¬ sg p i < sg p r := fun h => by have := sg_lt.1 h; omega
    omega
  constructor
  · intro h
    exact (hA k (sg p r) (by rw [RR_eq hk, RR_eq hsr, h, hroot])).2 ⟨r, rfl, hr, hrr⟩
  · rintro ⟨i, rfl, hi, hir⟩
    have := hB i hi hir
    rw [RR_eq hk, RR_eq hsr] at this
    rw [this, hroot]
end

end Go.Proofs.YtgdlhajfajddiaaGreat
namespace Go.Proofs.YtgdlhajfajddiaaGreat
open Go Go.RowKit Cp

theorem fnds_asc (l : List Fnd) (root : Nat → Nat) (r : Nat) : ∀ n, n ≤ l.length → Strict cmpI (entK l root r n).fnds
  | 0, _ => List.Pairwise.nil
  | n + 1, hn => by
    obtain ⟨f, hf⟩ := at_ (l := l) (k := n) (by omega)
    have ih := fnds_asc l root r n (by omega)
    by_cases h : root n = r
    · rw [entK_yes hf h]
      show List.Pairwise _ (_ ++ [_])
      rw [List.pairwise_append]
      refine ⟨ih, List.pairwise_singleton _ _, fun a ha b hb => ?_⟩
      rw [List.mem_singleton] at hb
      subst hb
      obtain ⟨j, h1, _, h3⟩ := (fnds_mem (by omega)).1 ha
      unfold cmpI
      rw [if_pos (by omega)]; omega
    · rw [entK_no h]; exact ih
theorem cmpI_lt' {a b : Int} : cmpI a b < 0 ↔ a < b := by
  unfold cmpI
  by_cases h : a < b
  · rw [if_pos h]; omega
  · rw [if_neg h]; split <;> omega
theorem late_fnds {x : List Fnd} {f : Fnd} {p : Nat} {gap : Int} (hp : p ≤ x.length) (hx : AdjF x) (hy : AdjF (insF x f p)) {r : Nat} (hr : r < x.length) (hrr : rootS x gap r = r) (hfar : ∀ i g, x[i]? = some g → rootS x gap i = r → Far f g) :
    (entK (insF x f p) (rootS (insF x f p) gap) (sg p r) (insF x f p).length).fnds = (entK x (rootS x gap) r x.length).fnds.map (sgI p) := by
  refine strict_uniq cmp_int (fnds_asc _ _ _ _ (Nat.le_refl _)) ?_ fun v => ?_
  · show List.Pairwise _ _
    rw [List.pairwise_map]
    refine (fnds_asc x _ r _ (Nat.le_refl _)).imp fun {a b} h => ?_
    rw [cmpI_lt'] at h ⊢
    unfold sgI; split <;> split <;> omega
  · rw [fnds_mem (Nat.le_refl _), List.mem_map]
    constructor
    · rintro ⟨k, h1, h2, h3⟩
      obtain ⟨i, h4, h5, h6⟩ := (late_class hp hx hy hr hrr hfar k h1).1 h2
      exact ⟨(i : Nat), (fnds_mem (Nat.le_refl _)).2 ⟨i, h5, h6, rfl⟩, by rw [sgI_nat, h3, h4]⟩
    · rintro ⟨w, h1, h2⟩
      obtain ⟨i, h3, h4, h5⟩ := (fnds_mem (Nat.le_refl _)).1 h1
      have hl := insF_len (f := f) hp
      have hs : sg p i < (insF x f p).length := by rw [hl]; unfold sg; split <;> omega
      exact ⟨sg p i, hs, (late_class hp hx hy hr hrr hfar _ hs).2 ⟨i, rfl, h3, h4⟩, by rw [← h2, h5, sgI_nat]⟩
end Go.Proofs.YtgdlhajfajddiaaGreat
namespace Cp
open Go Go.RowKit
section
variable {P : Program} {I : Asn} {o : Oper} {E : Env}
theorem cells1_atG {β : Type} {g : β → Pr} {l : List β} {qs : List Pr} {i : Int} (h : i.toNat < l.length) : ((l.map fun x => [g x]).flatten ++ qs)[0 + i.toNat * 1]? = some (g (l[i.toNat]'h)) :=
  cell1_at (f := fun x => [g x]) (fun _ => rfl) (List.getElem?_eq_getElem h) rfl
end
section
variable {P : Program} {n : Nat} {E : Env} {M0 : Av} {w0 : World} {S : Nat → Prop} {rs : List Res} {o : Oper}
/-- append onto a slice of ours, of nothing perhaps. -/
theorem ef_appmut0 {t e : TypeId} {x y : Operand} {sz bytes d : Nat} {zs : List Value} {rows rows' : List (List Pr)} {v : Value} {p : Pr} {j : Nat} (hg : o.guard = none) (hd : o.dst = some d) (hn : d < n) (ho : o.op = .call { callee := .builtin .append, args := #[x, y], argTypes := #[t, t] })
    (ht : P.underlying t = some (.slice e)) (hz : sizeB P e = some sz) (hby : bytesB P e = some bytes) (hze : zeroB P e = some zs) (hzl : zs.length = sz) (hone : zs.all (·.oneCell') = true) (hsz : 0 < sz)
    (hx : VL E x (andIs v p)) (hy : VL E y (slice sz rows')) (hl : ∀ r ∈ rows, r.length = sz) (hmax : rows.length + rows'.length ≤ maxLen) (hfit : (rows.length + rows'.length) * bytes ≤ 140737488355328) : OpEf P M0 w0 S n j (SR.c (ownRes e sz rows v)) ⟨d, ownRes e sz (rows ++ rows')⟩ o E (lens (rows.length + rows'.length)) := by
  rcases Nat.eq_zero_or_pos rows'.length with h0 | h0
  · have hr0 : rows' = [] := List.eq_nil_of_length_eq_zero h0
    subst hr0
    refine ⟨hg, fun M w a rs hszn he hI hj => ?_⟩
    have h1 : a.eval x = v := (hx.ev he (by simp [ho, Op.operands, Call.operands])).1
    obtain ⟨A', c', hu, _⟩ := hy.ev he (by simp [ho, Op.operands, Call.operands])
    have hj' : rs[j]? = some (ownRes e sz rows v) := hj
    have hv : ∃ A c, v = .slice A rows.length c ∧ rows.length ≤ c := by
      rcases (hI.hold _ (List.mem_of_getElem? hj')).1 with ⟨rfl, rfl⟩ | ⟨b, cap, sp, rfl, h2, _⟩
      · exact ⟨none, 0, rfl, Nat.le_refl _⟩
      · exact ⟨_, _, rfl, h2⟩
    obtain ⟨A, c, hv1, hv2⟩ := hv
    have hrun := run_append_zero (P := P) (ty := o.type) (A := A) (A' := A') (n := rows.length) (c := c) (c' := c') ht hz hv2 w
    have hrun2 : (execOp a.eval o).run P w = .ok (.value v) w := by
      simp [execOp, ho, resolve, invoke, builtin, h1, hu]
      rw [hv1, hrun]; rfl
    rw [hrun2]
    refine ⟨M, ⟨A, c, by rw [hv1]; rfl⟩, Ext.refl _ _, ?_⟩
    have : (SR.at_ (a.put o.dst v) ⟨d, ownRes e sz (rows ++ [])⟩) = ownRes e sz (rows ++ []) v := by unfold SR.at_ Slot.val; dsimp only; rw [hd, put_same (by rw [hszn]; exact hn)]
    rw [this, List.append_nil]
    have hse : rs.set j (ownRes e sz rows v) = rs := by
      apply List.ext_getElem?
      intro i
      rw [List.getElem?_set]
      by_cases hij : j = i
      · subst hij
        rw [if_pos rfl]
        split
        · exact hj'.symm
        · rename_i hge
          rw [List.getElem?_eq_none (by omega)]
      · rw [if_neg hij]
    rw [hse]; exact hI
  · exact ef_appmut hg hd hn ho ht hz hby hze hzl hone hsz hx hy hl h0 hmax hfit
/-- One that has elements lies in a block. -/
theorem Fin.toMut {Q : Exit → Act → World → Prop} {x : Exit} {e : TypeId} {sz : Nat} {rows : List (List Pr)} {v : Value} (j : Nat) (hj : rs[j]? = some (ownRes e sz rows v)) (hne : rows ≠ []) (k : Fin n E (Hp M0 w0 S (rs.set j (mutRes e sz rows v))) Q x) : Fin n E (Hp M0 w0 S rs) Q x :=
  Fin.conv (fun a w hs => by
    obtain ⟨M, h1, h2, h3, h4⟩ := hs
    have h4 : HpH M0 w0 S rs M w := h4
    refine ⟨M, h1, h2, h3, h4.swap1 hj rfl rfl ?_⟩
    rcases (h4.hold _ (List.mem_of_getElem? hj)).1 with ⟨h5, _⟩ | h5
    · exact absurd h5 hne
    · exact h5) k
theorem cell1_off {β : Type} {g : β → Pr} {l : List β} {qs : List Pr} {m k : Nat} {x : β} (hm : m = k) (h : l[k]? = some x) : ((l.map fun x => [g x]).flatten ++ qs)[m]? = some (g x) := by
  subst hm
  have h1 := cell1_at (f := fun x => [g x]) (qs := qs) (fun _ => rfl) (i := ((m : Nat) : Int)) (by rw [Int.toNat_natCast]; exact h) rfl
  rw [Int.toNat_natCast, Nat.zero_add, Nat.mul_one] at h1
  exact h1
end
end Cp
namespace Go.Proofs.YtgdlhajfajddiaaGreat
open Go Go.RowKit Cp
set_option maxRecDepth 20000 in
theorem w_lessCOs {a b : List UInt8} {c : List UInt8 × List UInt8 → Int} (hc : ∀ x y, c (x, y) = Lib.compareBytes x y) : Fun Tryz.prog 164 [str a, str b] (bool (decide (c (a, b) < 0))) := by
 refine Fun.of Tryz.func164 rfl rfl (by exact Nat.le_of_ble_eq_true rfl) fun M0 w0 => ?_
 refine Tr.seq (Tr.reg0 (cm rfl (Ch.nil (Fin.go (Tr.seq (Tr.reg0 (cm rfl (co rfl (ok_call rfl (w_isNaNs) ⟨ke rfl, trivial⟩) (cm rfl ?_)))))))))
 refine Ch.cs 7 rfl ?_ ?_ <;> intro h1 q1
 exact absurd h1 (by decide)
 refine cnt h1 rfl (cnt h1 rfl (cnt h1 rfl (co rfl (kpf rfl rfl h1 rfl) (cm rfl (cym rfl rfl (cym rfl rfl (cy rfl rfl (ok_lts rfl (vl rfl) (vl rfl)) (co rfl (kpf rfl rfl rfl rfl) (cm rfl (Ch.nil (Fin.go (wk1 4 rfl (Tr.ret (Fin.ret1 rfl (OutW.bse _ _) rfl ?_))))))))))))))
 · refine bool_eq ?_; rw [decide_eq_decide, hc]; have := cmp_in a b; omega
set_option maxRecDepth 20000 in
theorem w_sinsOs {l : List (List UInt8)} {c : List UInt8 × List UInt8 → Int} {b0 cap len : Nat} {sp : List Value} {a b : Int} (hc : ∀ x y, c (x, y) = Lib.compareBytes x y) (hln : l.length = len) (hll : len ≤ 1000000) (hw : Go.Sort.SWO (ltc c)) (h0 : 0 ≤ a) (hab : a ≤ b) (hb : b ≤ len) : FunM Tryz.prog 242 [is (.slice (some ⟨b0, 0, none⟩) len cap), int a, int b] (unit_) (cellsRes true b0 9 ((l.map (fun t : List UInt8 => [str t])).flatten ++ sp.map is)) (fun _ => relRes b0 9 (fun t : List UInt8 => [str t]) (SortL c a b l) (sp.map is)) := by
 refine FunM.of Tryz.func242 rfl rfl (by exact Nat.le_of_ble_eq_true rfl) fun M0 w0 S rs M1 w1 => ?_
 refine Tr.seq (Tr.reg0 (cm rfl (cad rfl rfl rfl rfl (by omega) (cm rfl (Ch.nil (Fin.go (Tr.block (Tr.loopD2V0 [(0, _), (1, _), (2, _)] ⟨ke rfl, ke rfl, ke rfl, trivial⟩ (fun (i : Int) (st : List (List UInt8)) => [(6, int i)]) (fun (i : Int) (st : List (List UInt8)) => Hp M0 w0 S (cellsRes true b0 9 ((st.map (fun t : List UInt8 => [str t])).flatten ++ sp.map is) :: extRes M1 w1 :: rs)) (fun (i : Int) (st : List (List UInt8)) => a < i ∧ st.length = len ∧ Go.Sort.insOuter (ltc c) a.toNat b.toNat i.toNat st.toArray = Go.Sort.insertionSort (ltc c) l.toArray a.toNat b.toNat) (fun (i : Int) (st : List (List UInt8)) => (b - i).toNat) (a + 1) (l)  (⟨by omega, by omega, inso_start h0⟩) ⟨ke rfl, trivial⟩ (fun _ _ h => h) ?_))))))))
 rintro i st  ⟨hi1, hsl, hso⟩
 refine Tr.seq (Tr.seq (Tr.reg0 (cm rfl (cm rfl (co rfl (ki rfl rfl rfl rfl) (Ch.nil (Fin.go ?_)))))))
 refine Tr.cn rfl ?_ ?_ <;> intro h1 q1
 have hib : i < b := of_decide_eq_true h1
 refine Tr.skip (Fin.go (Tr.seq (Tr.block (Tr.seq (Tr.reg0 (cm rfl (cm rfl (Ch.nil (Fin.go (Tr.block (Tr.loopD2V0 [(0, _), (1, _), (2, _), (6, _)] ⟨ke rfl, ke rfl, ke rfl, ke rfl, trivial⟩ (fun (j : Int) (st2 : List (List UInt8)) => [(7, int j)]) (fun (j : Int) (st2 : List (List UInt8)) => Hp M0 w0 S (cellsRes true b0 9 ((st2.map (fun t : List UInt8 => [str t])).flatten ++ sp.map is) :: extRes M1 w1 :: rs)) (fun (j : Int) (st2 : List (List UInt8)) => (a ≤ j ∧ j ≤ i) ∧ st2.length = len ∧ Go.Sort.insInner (ltc c) a.toNat j.toNat st2.toArray = Go.Sort.insInner (ltc c) a.toNat i.toNat st.toArray) (fun (j : Int) (st2 : List (List UInt8)) => (j - a).toNat) (i) (st)  (⟨⟨by omega, by omega⟩, hsl, rfl⟩) ⟨ke rfl, trivial⟩ (fun _ _ h => h) ?_)))))))))))
 rintro j st2  ⟨⟨hj1, hj2⟩, hsl2, hso2⟩
 refine Tr.seq (Tr.seq (Tr.reg1 mixed (by kernel_rfl) (cm rfl (cm rfl (co rfl (ki rfl rfl rfl rfl) (cm rfl ?_))))))
 refine Ch.cs 19 rfl ?_ ?_ <;> intro h2 q2
 refine cym h2 rfl (cym h2 rfl (cy h2 rfl (okp_indexSl rfl Tryz.underlying53 sz9 (vl rfl) (vl rfl) (by omega) (by omega)) (cy h2 rfl (ok_rd 0 rfl (rd_load1 rfl one9 (vl rfl) (cells1_atG (g := (fun t : List UInt8 => str t)) (by omega)))) (cym h2 rfl (cym h2 rfl ?_)))))
 refine cy h2 rfl (ok_sub rfl (vl rfl) (vl rfl) ?hin) ?_; case hin => unfold InI; omega
 refine cy h2 rfl (okp_indexSl rfl Tryz.underlying53 sz9 (vl rfl) (vl rfl) (by omega) (by omega)) (cy h2 rfl (ok_rd 0 rfl (rd_load1 rfl one9 (vl rfl) (cells1_atG (g := (fun t : List UInt8 => str t)) (by omega)))) (cy h2 rfl (ok_call rfl (w_lessCOs hc) ⟨ke rfl, ke rfl, trivial⟩) (co rfl (kpt rfl rfl h2 rfl) (Ch.nil (Fin.go (wk6 0 1 2 6 7 30 rfl ?_))))))
 refine Tr.cn rfl ?_ ?_ <;> intro h3 q3
 have := h3
 refine Tr.skip (Fin.go (Tr.seq (Tr.block (Tr.regX mixed [none, none, none, none, none, none, none, none, none, some (0, 0, false, 0), none, none, none, some (0, 0, false, 0), none, some (0, 0, true, 0), none, some (0, 0, true, 0)] (by kernel_rfl) ?_))))
 iterate 4 refine xm rfl ?_
 refine xo rfl (fun _ => ok_sub rfl (vl rfl) (vl rfl) ?hin) ?_; case hin => unfold InI; omega
 refine xm rfl (xm rfl ?_)
 refine xo rfl (fun _ => ok_sub rfl (vl rfl) (vl rfl) ?hin) ?_; case hin => unfold InI; omega
 refine xo rfl (fun _ => okp_indexSl rfl Tryz.underlying53 sz9 (vl rfl) (vl rfl) (by omega) (by omega)) (xrd 0 rfl rfl (rd_load1 rfl one9 (vl rfl) (cells1_atG (g := (fun t : List UInt8 => str t)) (by omega))) (xm rfl (xm rfl (xo rfl (fun _ => okp_indexSl rfl Tryz.underlying53 sz9 (vl rfl) (vl rfl) (by omega) (by omega)) (xrd 0 rfl rfl (rd_load1 rfl one9 (vl rfl) (cells1_atG (g := (fun t : List UInt8 => str t)) (by omega))) (xo rfl (fun _ => okp_indexSl rfl Tryz.underlying53 sz9 (vl rfl) (vl rfl) (by omega) (by omega)) ?_))))))
 refine Cx.ef0 0 rfl rfl (ef_store rfl rfl (vl rfl) (VL.le (vl rfl) (one_cellsP _)) sz9 rfl (by rw [cells_len (sz := 1) (fun _ => rfl)]; omega) (cells_setG (f := (fun t : List UInt8 => [str t])) (fun _ => rfl) (by omega))) ?_
 refine xo rfl (fun _ => okp_indexSl rfl Tryz.underlying53 sz9 (vl rfl) (vl rfl) (by omega) (by omega)) ?_
 refine Cx.ef0 0 rfl rfl (ef_store rfl rfl (vl rfl) (VL.le (vl rfl) (one_cellsP _)) sz9 rfl (by rw [cells_len (sz := 1) (fun _ => rfl)]; simp only [List.length_set]; omega) (cells_setG (f := (fun t : List UInt8 => [str t])) (fun _ => rfl) (by simp only [List.length_set]; omega))) ?_
 refine Cx.nil ⟨rfl, ?_⟩
 refine FinX.done (AllC.cons (AllC.cons (AllC.map _))) (Fin.block (Fin.go (wk5 0 1 2 6 7 rfl (Tr.reg0 (cm rfl (csu rfl rfl rfl rfl (by omega) (cm rfl (Ch.nil ?_))))))))
 exact Fin.famD2V0 (j - 1) (_)  (⟨⟨⟨by omega, by omega⟩, by simp only [List.length_set]; exact hsl2, by rw [ins_go h0 (by omega) rfl (by omega) (by omega) (by assumption)]; exact hso2⟩, by omega⟩) ⟨ke rfl, ke rfl, ke rfl, ke rfl, ke rfl, trivial⟩ (fun _ _ h => h)
 have := h3
 refine Tr.exit (Fin.then_exit (Fin.then_exit (Fin.block_here (Fin.block (Fin.go (Tr.reg0 (cm rfl (cad rfl rfl rfl rfl (by omega) (cm rfl (Ch.nil ?_))))))))))
 have hfin : st2.toArray = Go.Sort.insInner (ltc c) a.toNat j.toNat st2.toArray := by exact ins_stopB h0 (by omega) rfl (by omega) (by omega) (Int.not_lt.2 (by assumption))
 exact Fin.famD2V0 (i + 1) (st2)  (⟨⟨by omega, hsl2, by rw [← hso, ← inso_go (by omega) hib, ← hso2]; exact congrArg _ hfin⟩, by omega⟩) ⟨ke rfl, ke rfl, ke rfl, ke rfl, trivial⟩ (fun _ _ h => h)
 iterate 10 refine cnt h2 rfl ?_
 refine co rfl (kpf rfl rfl h2 rfl) (Ch.nil (Fin.go (wk6 0 1 2 6 7 30 rfl (Tr.cond rfl (fun h => nomatch h) (fun _ => ?_)))))
 refine Tr.exit (Fin.then_exit (Fin.then_exit (Fin.block_here (Fin.block (Fin.go (Tr.reg0 (cm rfl (cad rfl rfl rfl rfl (by omega) (cm rfl (Ch.nil ?_))))))))))
 have hfin : st2.toArray = Go.Sort.insInner (ltc c) a.toNat j.toNat st2.toArray := by exact ins_stopA h0 (by omega)
 exact Fin.famD2V0 (i + 1) (st2)  (⟨⟨by omega, hsl2, by rw [← hso, ← inso_go (by omega) hib, ← hso2]; exact congrArg _ hfin⟩, by omega⟩) ⟨ke rfl, ke rfl, ke rfl, ke rfl, trivial⟩ (fun _ _ h => h)
 have hib : ¬ i < b := of_decide_eq_false h1
 rw [inso_stop (by omega) hib] at hso
 refine Tr.exit (Fin.then_exit (Fin.then_exit (Fin.block_here ?_)))
 refine Fin.closeL (SortL c a b l) 0 rfl (by unfold SortL; rw [hso]; exact Go.Sort.insertionSort_holds hw l.toArray a.toNat b.toNat (by omega) (by simp only [List.size_toArray]; omega)) ?_
 exact Fin.retM0 rfl
set_option maxRecDepth 20000 in
theorem w_ssiftOs {l : List (List UInt8)} {c : List UInt8 × List UInt8 → Int} {b0 cap len : Nat} {sp : List Value} {lo hi first : Int} (hc : ∀ x y, c (x, y) = Lib.compareBytes x y) (hln : l.length = len) (hll : len ≤ 1000000) (h0 : 0 ≤ lo) (hlo : lo ≤ len) (hf : 0 ≤ first) (hb : first + hi ≤ len) : FunM Tryz.prog 260 [is (.slice (some ⟨b0, 0, none⟩) len cap), int lo, int hi, int first] (unit_) (cellsRes true b0 9 ((l.map (fun t : List UInt8 => [str t])).flatten ++ sp.map is)) (fun _ => relRes b0 9 (fun t : List UInt8 => [str t]) (SiftL c hi first lo l) (sp.map is)) := by
 refine FunM.of Tryz.func260 rfl rfl (by exact Nat.le_of_ble_eq_true rfl) fun M0 w0 S rs M1 w1 => ?_
 refine Tr.seq (Tr.reg0 (cm rfl (cm rfl (Ch.nil (Fin.go (Tr.block (Tr.loopD2V0 [(0, _), (2, _), (3, _)] ⟨ke rfl, ke rfl, ke rfl, trivial⟩ (fun (r : Int) (st : List (List UInt8)) => [(8, int r)]) (fun (r : Int) (st : List (List UInt8)) => Hp M0 w0 S (cellsRes true b0 9 ((st.map (fun t : List UInt8 => [str t])).flatten ++ sp.map is) :: extRes M1 w1 :: rs)) (fun (r : Int) (st : List (List UInt8)) => (0 ≤ r ∧ r ≤ 1000000) ∧ st.length = len ∧ Go.Sort.siftDown (ltc c) hi.toNat first.toNat r.toNat st.toArray = Go.Sort.siftDown (ltc c) hi.toNat first.toNat lo.toNat l.toArray) (fun (r : Int) (st : List (List UInt8)) => (hi - r).toNat) (lo) (l)  (⟨⟨by omega, by omega⟩, by omega, rfl⟩) ⟨ke rfl, trivial⟩ (fun _ _ h => h) ?_)))))))
 rintro r st  ⟨⟨h0r, hr2⟩, hsl, hso⟩
 refine Tr.block (Tr.seq (Tr.reg0 (cm rfl ?_)))
 refine co rfl (ok_mul rfl (vl rfl) (vl rfl) ?hin) ?_; case hin => unfold InI; omega
 refine cad rfl rfl rfl rfl (by omega) (cm rfl (Ch.nil (Fin.go (Tr.seq (Tr.seq (Tr.reg0 (cm rfl (cm rfl (co rfl (ki rfl rfl rfl rfl) (Ch.nil (Fin.go ?_)))))))))))
 refine Tr.cn rfl ?_ ?_ <;> intro h1 q1
 refine Tr.exit (Fin.then_exit (Fin.block_on rfl (Fin.then_exit (Fin.block_here ?_))))
 refine Fin.closeL (SiftL c hi first lo l) 0 rfl (⟨by omega, by rw [← hso]; exact sift_end (by omega) (by omega)⟩) ?_
 exact Fin.retM0 rfl
 refine Tr.skip (Fin.go (Tr.seq (Tr.seq (Tr.reg1 mixed (by kernel_rfl) (cm rfl (cad rfl rfl rfl rfl (by omega) (cm rfl (co rfl (ki rfl rfl rfl rfl) (cm rfl ?_)))))))))
 refine Ch.cs 21 rfl ?_ ?_ <;> intro h2 q2
 refine cym h2 rfl (cym h2 rfl (cym h2 rfl ?_))
 refine cy h2 rfl (ok_add rfl (vl rfl) (vl rfl) ?hin) ?_; case hin => unfold InI; omega
 refine cy h2 rfl (okp_indexSl rfl Tryz.underlying53 sz9 (vl rfl) (vl rfl) (by omega) (by omega)) (cy h2 rfl (ok_rd 0 rfl (rd_load1 rfl one9 (vl rfl) (cells1_atG (g := (fun t : List UInt8 => str t)) (by omega)))) (cym h2 rfl (cym h2 rfl (cym h2 rfl ?_))))
 refine cy h2 rfl (ok_add rfl (vl rfl) (vl rfl) ?hin) ?_; case hin => unfold InI; omega
 refine cy h2 rfl (ok_add rfl (vl rfl) (vl rfl) ?hin) ?_; case hin => unfold InI; omega
 refine cy h2 rfl (okp_indexSl rfl Tryz.underlying53 sz9 (vl rfl) (vl rfl) (by omega) (by omega)) (cy h2 rfl (ok_rd 0 rfl (rd_load1 rfl one9 (vl rfl) (cells1_atG (g := (fun t : List UInt8 => str t)) (by omega)))) (cy h2 rfl (ok_call rfl (w_lessCOs hc) ⟨ke rfl, ke rfl, trivial⟩) (co rfl (kpt rfl rfl h2 rfl) (Ch.nil (Fin.go (wk6 0 2 3 8 9 36 rfl ?_))))))
 refine Tr.cn rfl ?_ ?_ <;> intro h3 q3
 refine Tr.reg0 (cm rfl (cad rfl rfl rfl rfl (by omega) (cm rfl (Ch.nil (Fin.go (Tr.seq (Tr.seq (Tr.reg1 mixed (by kernel_rfl) (cm rfl (cm rfl (cm rfl (cad rfl rfl rfl rfl (by omega) (co rfl (okp_indexSl rfl Tryz.underlying53 sz9 (vl rfl) (vl rfl) (by omega) (by omega)) ?_)))))))))))))
 refine co rfl (ok_rd 0 rfl (rd_load1 rfl one9 (vl rfl) (cells1_atG (g := (fun t : List UInt8 => str t)) (by omega)))) (cm rfl (cm rfl (cm rfl (cad rfl rfl rfl rfl (by omega) (co rfl (okp_indexSl rfl Tryz.underlying53 sz9 (vl rfl) (vl rfl) (by omega) (by omega)) (co rfl (ok_rd 0 rfl (rd_load1 rfl one9 (vl rfl) (cells1_atG (g := (fun t : List UInt8 => str t)) (by omega)))) (co rfl (ok_call rfl (w_lessCOs hc) ⟨ke rfl, ke rfl, trivial⟩) (co rfl (ok_not rfl (vl rfl)) (Ch.nil (Fin.go (wk6 0 2 3 8 9 52 rfl ?_)))))))))))
 refine Tr.cn rfl ?_ ?_ <;> intro h4 q4
 refine Tr.ret (Fin.then_ret (Fin.block_ret (Fin.then_ret (Fin.block_ret ?_))))
 refine Fin.closeL (SiftL c hi first lo l) 0 rfl (⟨by omega, by rw [← hso]; exact sift_stopR h0r hf (by omega) (u := first + (2 * r + 1)) (v := first + (2 * r + 1) + 1) rfl rfl (by omega) (by omega) (by assumption) (x := first + r) (y := first + (2 * r + 1 + 1)) rfl rfl (by omega) (by omega) (Int.not_lt.2 (by assumption))⟩) ?_
 exact Fin.retM0r rfl
 refine Tr.skip (Fin.go (Tr.seq (Tr.regX mixed [none, none, none, none, none, none, none, none, none, none, none, none, none, some (0, 0, false, 0), none, none, none, none, none, some (0, 0, false, 0), none, some (0, 0, true, 0), none, some (0, 0, true, 0)] (by kernel_rfl) (xm rfl (xm rfl (xm rfl ?_))))))
 refine xo rfl (fun _ => ok_add rfl (vl rfl) (vl rfl) ?hin) ?_; case hin => unfold InI; omega
 refine xm rfl (xm rfl (xm rfl ?_))
 refine xo rfl (fun _ => ok_add rfl (vl rfl) (vl rfl) ?hin) ?_; case hin => unfold InI; omega
 refine xm rfl (xm rfl (xm rfl ?_))
 refine xo rfl (fun _ => ok_add rfl (vl rfl) (vl rfl) ?hin) ?_; case hin => unfold InI; omega
 refine xo rfl (fun _ => okp_indexSl rfl Tryz.underlying53 sz9 (vl rfl) (vl rfl) (by omega) (by omega)) (xrd 0 rfl rfl (rd_load1 rfl one9 (vl rfl) (cells1_atG (g := (fun t : List UInt8 => str t)) (by omega))) (xm rfl (xm rfl (xm rfl ?_))))
 refine xo rfl (fun _ => ok_add rfl (vl rfl) (vl rfl) ?hin) ?_; case hin => unfold InI; omega
 refine xo rfl (fun _ => okp_indexSl rfl Tryz.underlying53 sz9 (vl rfl) (vl rfl) (by omega) (by omega)) (xrd 0 rfl rfl (rd_load1 rfl one9 (vl rfl) (cells1_atG (g := (fun t : List UInt8 => str t)) (by omega))) (xo rfl (fun _ => okp_indexSl rfl Tryz.underlying53 sz9 (vl rfl) (vl rfl) (by omega) (by omega)) ?_))
 refine Cx.ef0 0 rfl rfl (ef_store rfl rfl (vl rfl) (VL.le (vl rfl) (one_cellsP _)) sz9 rfl (by rw [cells_len (sz := 1) (fun _ => rfl)]; omega) (cells_setG (f := (fun t : List UInt8 => [str t])) (fun _ => rfl) (by omega))) ?_
 refine xo rfl (fun _ => okp_indexSl rfl Tryz.underlying53 sz9 (vl rfl) (vl rfl) (by omega) (by omega)) ?_
 refine Cx.ef0 0 rfl rfl (ef_store rfl rfl (vl rfl) (VL.le (vl rfl) (one_cellsP _)) sz9 rfl (by rw [cells_len (sz := 1) (fun _ => rfl)]; simp only [List.length_set]; omega) (cells_setG (f := (fun t : List UInt8 => [str t])) (fun _ => rfl) (by simp only [List.length_set]; omega))) ?_
 refine Cx.nil ⟨rfl, ?_⟩
 refine FinX.done (AllC.cons (AllC.cons (AllC.map _))) (Fin.go (wk4 0 2 3 9 rfl (Tr.reg0 (cm rfl (cm rfl (Ch.nil (Fin.block ?_)))))))
 exact Fin.famD2V0 (2 * r + 1 + 1) (_)  (⟨⟨⟨by omega, by omega⟩, by simp only [List.length_set]; exact hsl, by rw [← hso]; exact sift_goR h0r hf (by omega) (u := first + (2 * r + 1)) (v := first + (2 * r + 1) + 1) rfl rfl (by omega) (by omega) (by assumption) (by omega) (by omega) (by omega) (by omega) (by assumption)⟩, by omega⟩) ⟨ke rfl, ke rfl, ke rfl, ke rfl, trivial⟩ (fun _ _ h => h)
 refine Tr.skip (Fin.go (Tr.seq (Tr.seq (Tr.reg1 mixed (by kernel_rfl) (cm rfl (cm rfl (cm rfl (cad rfl rfl rfl rfl (by omega) (co rfl (okp_indexSl rfl Tryz.underlying53 sz9 (vl rfl) (vl rfl) (by omega) (by omega)) (co rfl (ok_rd 0 rfl (rd_load1 rfl one9 (vl rfl) (cells1_atG (g := (fun t : List UInt8 => str t)) (by omega)))) (cm rfl (cm rfl (cm rfl ?_)))))))))))))
 refine cad rfl rfl rfl rfl (by omega) (co rfl (okp_indexSl rfl Tryz.underlying53 sz9 (vl rfl) (vl rfl) (by omega) (by omega)) (co rfl (ok_rd 0 rfl (rd_load1 rfl one9 (vl rfl) (cells1_atG (g := (fun t : List UInt8 => str t)) (by omega)))) (co rfl (ok_call rfl (w_lessCOs hc) ⟨ke rfl, ke rfl, trivial⟩) (co rfl (ok_not rfl (vl rfl)) (Ch.nil (Fin.go (wk6 0 2 3 8 9 52 rfl ?_)))))))
 refine Tr.cn rfl ?_ ?_ <;> intro h5 q5
 refine Tr.ret (Fin.then_ret (Fin.block_ret (Fin.then_ret (Fin.block_ret ?_))))
 refine Fin.closeL (SiftL c hi first lo l) 0 rfl (⟨by omega, by rw [← hso]; exact sift_stopLb h0r hf (by omega) (u := first + (2 * r + 1)) (v := first + (2 * r + 1) + 1) rfl rfl (by omega) (by omega) (Int.not_lt.2 (by assumption)) (x := first + r) (y := first + (2 * r + 1)) rfl rfl (by omega) (by omega) (Int.not_lt.2 (by assumption))⟩) ?_
 exact Fin.retM0r rfl
 refine Tr.skip (Fin.go (Tr.seq (Tr.regX mixed [none, none, none, none, none, none, none, none, none, none, none, none, none, some (0, 0, false, 0), none, none, none, none, none, some (0, 0, false, 0), none, some (0, 0, true, 0), none, some (0, 0, true, 0)] (by kernel_rfl) (xm rfl (xm rfl (xm rfl ?_))))))
 refine xo rfl (fun _ => ok_add rfl (vl rfl) (vl rfl) ?hin) ?_; case hin => unfold InI; omega
 refine xm rfl (xm rfl (xm rfl ?_))
 refine xo rfl (fun _ => ok_add rfl (vl rfl) (vl rfl) ?hin) ?_; case hin => unfold InI; omega
 refine xm rfl (xm rfl (xm rfl ?_))
 refine xo rfl (fun _ => ok_add rfl (vl rfl) (vl rfl) ?hin) ?_; case hin => unfold InI; omega
 refine xo rfl (fun _ => okp_indexSl rfl Tryz.underlying53 sz9 (vl rfl) (vl rfl) (by omega) (by omega)) (xrd 0 rfl rfl (rd_load1 rfl one9 (vl rfl) (cells1_atG (g := (fun t : List UInt8 => str t)) (by omega))) (xm rfl (xm rfl (xm rfl ?_))))
 refine xo rfl (fun _ => ok_add rfl (vl rfl) (vl rfl) ?hin) ?_; case hin => unfold InI; omega
 refine xo rfl (fun _ => okp_indexSl rfl Tryz.underlying53 sz9 (vl rfl) (vl rfl) (by omega) (by omega)) (xrd 0 rfl rfl (rd_load1 rfl one9 (vl rfl) (cells1_atG (g := (fun t : List UInt8 => str t)) (by omega))) (xo rfl (fun _ => okp_indexSl rfl Tryz.underlying53 sz9 (vl rfl) (vl rfl) (by omega) (by omega)) ?_))
 refine Cx.ef0 0 rfl rfl (ef_store rfl rfl (vl rfl) (VL.le (vl rfl) (one_cellsP _)) sz9 rfl (by rw [cells_len (sz := 1) (fun _ => rfl)]; omega) (cells_setG (f := (fun t : List UInt8 => [str t])) (fun _ => rfl) (by omega))) ?_
 refine xo rfl (fun _ => okp_indexSl rfl Tryz.underlying53 sz9 (vl rfl) (vl rfl) (by omega) (by omega)) ?_
 refine Cx.ef0 0 rfl rfl (ef_store rfl rfl (vl rfl) (VL.le (vl rfl) (one_cellsP _)) sz9 rfl (by rw [cells_len (sz := 1) (fun _ => rfl)]; simp only [List.length_set]; omega) (cells_setG (f := (fun t : List UInt8 => [str t])) (fun _ => rfl) (by simp only [List.length_set]; omega))) ?_
 refine Cx.nil ⟨rfl, ?_⟩
 refine FinX.done (AllC.cons (AllC.cons (AllC.map _))) (Fin.go (wk4 0 2 3 9 rfl (Tr.reg0 (cm rfl (cm rfl (Ch.nil (Fin.block ?_)))))))
 exact Fin.famD2V0 (2 * r + 1) (_)  (⟨⟨⟨by omega, by omega⟩, by simp only [List.length_set]; exact hsl, by rw [← hso]; exact sift_goLb h0r hf (by omega) (u := first + (2 * r + 1)) (v := first + (2 * r + 1) + 1) rfl rfl (by omega) (by omega) (Int.not_lt.2 (by assumption)) (by omega) (by omega) (by omega) (by omega) (by assumption)⟩, by omega⟩) ⟨ke rfl, ke rfl, ke rfl, ke rfl, trivial⟩ (fun _ _ h => h)
 iterate 14 refine cnt h2 rfl ?_
 refine co rfl (kpf rfl rfl h2 rfl) (Ch.nil (Fin.go (wk6 0 2 3 8 9 36 rfl (Tr.cond rfl (fun h => nomatch h) (fun _ => ?_)))))
 refine Tr.skip (Fin.go (Tr.seq (Tr.seq (Tr.reg1 mixed (by kernel_rfl) (cm rfl (cm rfl (cm rfl (cad rfl rfl rfl rfl (by omega) (co rfl (okp_indexSl rfl Tryz.underlying53 sz9 (vl rfl) (vl rfl) (by omega) (by omega)) (co rfl (ok_rd 0 rfl (rd_load1 rfl one9 (vl rfl) (cells1_atG (g := (fun t : List UInt8 => str t)) (by omega)))) (cm rfl (cm rfl (cm rfl ?_)))))))))))))
 refine cad rfl rfl rfl rfl (by omega) (co rfl (okp_indexSl rfl Tryz.underlying53 sz9 (vl rfl) (vl rfl) (by omega) (by omega)) (co rfl (ok_rd 0 rfl (rd_load1 rfl one9 (vl rfl) (cells1_atG (g := (fun t : List UInt8 => str t)) (by omega)))) (co rfl (ok_call rfl (w_lessCOs hc) ⟨ke rfl, ke rfl, trivial⟩) (co rfl (ok_not rfl (vl rfl)) (Ch.nil (Fin.go (wk6 0 2 3 8 9 52 rfl ?_)))))))
 refine Tr.cn rfl ?_ ?_ <;> intro h6 q6
 refine Tr.ret (Fin.then_ret (Fin.block_ret (Fin.then_ret (Fin.block_ret ?_))))
 refine Fin.closeL (SiftL c hi first lo l) 0 rfl (⟨by omega, by rw [← hso]; exact sift_stopLa h0r hf (by omega) (by omega) (x := first + r) (y := first + (2 * r + 1)) rfl rfl (by omega) (by omega) (Int.not_lt.2 (by assumption))⟩) ?_
 exact Fin.retM0r rfl
 refine Tr.skip (Fin.go (Tr.seq (Tr.regX mixed [none, none, none, none, none, none, none, none, none, none, none, none, none, some (0, 0, false, 0), none, none, none, none, none, some (0, 0, false, 0), none, some (0, 0, true, 0), none, some (0, 0, true, 0)] (by kernel_rfl) (xm rfl (xm rfl (xm rfl ?_))))))
 refine xo rfl (fun _ => ok_add rfl (vl rfl) (vl rfl) ?hin) ?_; case hin => unfold InI; omega
 refine xm rfl (xm rfl (xm rfl ?_))
 refine xo rfl (fun _ => ok_add rfl (vl rfl) (vl rfl) ?hin) ?_; case hin => unfold InI; omega
 refine xm rfl (xm rfl (xm rfl ?_))
 refine xo rfl (fun _ => ok_add rfl (vl rfl) (vl rfl) ?hin) ?_; case hin => unfold InI; omega
 refine xo rfl (fun _ => okp_indexSl rfl Tryz.underlying53 sz9 (vl rfl) (vl rfl) (by omega) (by omega)) (xrd 0 rfl rfl (rd_load1 rfl one9 (vl rfl) (cells1_atG (g := (fun t : List UInt8 => str t)) (by omega))) (xm rfl (xm rfl (xm rfl ?_))))
 refine xo rfl (fun _ => ok_add rfl (vl rfl) (vl rfl) ?hin) ?_; case hin => unfold InI; omega
 refine xo rfl (fun _ => okp_indexSl rfl Tryz.underlying53 sz9 (vl rfl) (vl rfl) (by omega) (by omega)) (xrd 0 rfl rfl (rd_load1 rfl one9 (vl rfl) (cells1_atG (g := (fun t : List UInt8 => str t)) (by omega))) (xo rfl (fun _ => okp_indexSl rfl Tryz.underlying53 sz9 (vl rfl) (vl rfl) (by omega) (by omega)) ?_))
 refine Cx.ef0 0 rfl rfl (ef_store rfl rfl (vl rfl) (VL.le (vl rfl) (one_cellsP _)) sz9 rfl (by rw [cells_len (sz := 1) (fun _ => rfl)]; omega) (cells_setG (f := (fun t : List UInt8 => [str t])) (fun _ => rfl) (by omega))) ?_
 refine xo rfl (fun _ => okp_indexSl rfl Tryz.underlying53 sz9 (vl rfl) (vl rfl) (by omega) (by omega)) ?_
 refine Cx.ef0 0 rfl rfl (ef_store rfl rfl (vl rfl) (VL.le (vl rfl) (one_cellsP _)) sz9 rfl (by rw [cells_len (sz := 1) (fun _ => rfl)]; simp only [List.length_set]; omega) (cells_setG (f := (fun t : List UInt8 => [str t])) (fun _ => rfl) (by simp only [List.length_set]; omega))) ?_
 refine Cx.nil ⟨rfl, ?_⟩
 refine FinX.done (AllC.cons (AllC.cons (AllC.map _))) (Fin.go (wk4 0 2 3 9 rfl (Tr.reg0 (cm rfl (cm rfl (Ch.nil (Fin.block ?_)))))))
 exact Fin.famD2V0 (2 * r + 1) (_)  (⟨⟨⟨by omega, by omega⟩, by simp only [List.length_set]; exact hsl, by rw [← hso]; exact sift_goLa h0r hf (by omega) (by omega) (by omega) (by omega) (by omega) (by omega) (by assumption)⟩, by omega⟩) ⟨ke rfl, ke rfl, ke rfl, ke rfl, trivial⟩ (fun _ _ h => h)
set_option maxRecDepth 20000 in
theorem w_sheapOs {l : List (List UInt8)} {c : List UInt8 × List UInt8 → Int} {b0 cap len : Nat} {sp : List Value} {a b : Int} (hc : ∀ x y, c (x, y) = Lib.compareBytes x y) (hln : l.length = len) (hll : len ≤ 1000000) (hw : Go.Sort.SWO (ltc c)) (h0 : 0 ≤ a) (hab : a ≤ b) (hb : b ≤ len) : FunM Tryz.prog 243 [is (.slice (some ⟨b0, 0, none⟩) len cap), int a, int b] (unit_) (cellsRes true b0 9 ((l.map (fun t : List UInt8 => [str t])).flatten ++ sp.map is)) (fun _ => relRes b0 9 (fun t : List UInt8 => [str t]) (SortL c a b l) (sp.map is)) := by
 refine FunM.of Tryz.func243 rfl rfl (by exact Nat.le_of_ble_eq_true rfl) fun M0 w0 S rs M1 w1 => ?_
 have hq : IntKind.i64.wrap ((b - a - 1).tdiv 2) = (((b.toNat - a.toNat - 1) / 2 : Nat) : Int) := heap_half (by omega) (by omega) (by omega)
 refine Tr.seq (Tr.reg0 (cm rfl (cm rfl (Ch.nil (Fin.go (Tr.seq (Tr.reg0 (cm rfl (Ch.nil (Fin.go (Tr.seq (Tr.reg0 (cm rfl ?_)))))))))))))
 refine cm rfl (csu rfl rfl rfl rfl (by omega) (cm rfl (Ch.nil (Fin.go (Tr.seq (Tr.seq (Tr.reg0 (cm rfl (csu rfl rfl rfl rfl (by omega) (co rfl (ok_quo rfl (vl rfl) (vl rfl) (by omega)) (cm rfl (Ch.nil (Fin.go (Tr.block ?_))))))))))))))
 refine Tr.loopD2V0 [(0, _), (6, _), (7, _), (8, _)] ⟨ke rfl, ke rfl, ke rfl, ke rfl, trivial⟩ (fun (i : Int) (st : List (List UInt8)) => [(9, int i)]) (fun (i : Int) (st : List (List UInt8)) => Hp M0 w0 S (cellsRes true b0 9 ((st.map (fun t : List UInt8 => [str t])).flatten ++ sp.map is) :: extRes M1 w1 :: rs)) (fun (i : Int) (st : List (List UInt8)) => (-1 ≤ i ∧ i ≤ b - a) ∧ st.length = len ∧ Go.Sort.heapBuild (ltc c) (b - a).toNat a.toNat (i + 1).toNat st.toArray = Go.Sort.heapBuild (ltc c) (b - a).toNat a.toNat ((b.toNat - a.toNat - 1) / 2 + 1) l.toArray) (fun (i : Int) (st : List (List UInt8)) => (i + 1).toNat) ((((b.toNat - a.toNat - 1) / 2 : Nat) : Int)) (l)  (⟨⟨by omega, by omega⟩, by omega, by rw [show ((((b.toNat - a.toNat - 1) / 2 : Nat) : Int) + 1).toNat = (b.toNat - a.toNat - 1) / 2 + 1 by omega]⟩) ⟨⟨_, rfl, int_eq hq⟩, trivial⟩ (fun _ _ h => h) ?_
 rintro i st  ⟨⟨hi1, hi2⟩, hsl, hso⟩
 refine Tr.seq (Tr.seq (Tr.reg0 (cm rfl (co rfl (ki rfl rfl rfl rfl) (Ch.nil (Fin.go ?_))))))
 refine Tr.cn rfl ?_ ?_ <;> intro h1 q1
 have hib : 0 ≤ i := of_decide_eq_true h1
 refine Tr.skip (Fin.go (Tr.seq (Tr.block (Tr.regT ?_))))
 iterate 4 refine tm rfl ?_
 refine TO.efc 0 rfl rfl (by decide) (ef_callc rfl rfl (by decide) rfl (w_ssiftOs hc (by omega) (by omega) (by omega) (by omega) (by omega) (by omega)) ⟨ke rfl, ke rfl, ke rfl, ke rfl, trivial⟩) (TO.openL 0 rfl fun t1 hp1 => ?_)
 have hpl1 := hp1.len
 refine TO.nil (Fin.block (Fin.go (Tr.reg0 (cm rfl (csu rfl rfl rfl rfl (by omega) (cm rfl (Ch.nil ?_)))))))
 exact Fin.famD2V0 (i - 1) (t1)  (⟨⟨⟨by omega, by omega⟩, by omega, by rw [hp1.2]; exact (build_go hib).trans hso⟩, by omega⟩) ⟨ke rfl, ke rfl, ke rfl, ke rfl, ke rfl, trivial⟩ (fun _ _ h => h)
 have hib : ¬ 0 ≤ i := of_decide_eq_false h1
 rw [build_end hib] at hso
 refine Tr.exit (Fin.then_exit (Fin.then_exit (Fin.block_here (Fin.go (Tr.seq (Tr.reg0 (cm rfl (csu rfl rfl rfl rfl (by omega) (cm rfl (Ch.nil (Fin.go (Tr.block (Tr.loopD2V0 [(0, _), (6, _), (7, _)] ⟨ke rfl, ke rfl, ke rfl, trivial⟩ (fun (i2 : Int) (st2 : List (List UInt8)) => [(10, int i2)]) (fun (i2 : Int) (st2 : List (List UInt8)) => Hp M0 w0 S (cellsRes true b0 9 ((st2.map (fun t : List UInt8 => [str t])).flatten ++ sp.map is) :: extRes M1 w1 :: rs)) (fun (i2 : Int) (st2 : List (List UInt8)) => (-1 ≤ i2 ∧ i2 < b - a) ∧ st2.length = len ∧ Go.Sort.heapPop (ltc c) a.toNat (i2 + 1).toNat st2.toArray = Go.Sort.heapPop (ltc c) a.toNat (b - a).toNat st.toArray) (fun (i2 : Int) (st2 : List (List UInt8)) => (i2 + 1).toNat) (b - a - 1) (st)  (⟨⟨by omega, by omega⟩, by omega, by rw [show (b - a - 1 + 1).toNat = (b - a).toNat by omega]⟩) ⟨ke rfl, trivial⟩ (fun _ _ h => h) ?_)))))))))))))
 rintro i2 st2  ⟨⟨hj1, hj2⟩, hsl2, hso2⟩
 refine Tr.seq (Tr.seq (Tr.reg0 (cm rfl (co rfl (ki rfl rfl rfl rfl) (Ch.nil (Fin.go ?_))))))
 refine Tr.cn rfl ?_ ?_ <;> intro h2 q2
 have hib2 : 0 ≤ i2 := of_decide_eq_true h2
 refine Tr.skip (Fin.go (Tr.seq (Tr.block (Tr.seq (Tr.regX mixed [none, none, none, none, none, none, none, none, none, none, none, some (0, 0, false, 0), none, none, none, some (0, 0, false, 0), none, some (0, 0, true, 0), none, some (0, 0, true, 0)] (by kernel_rfl) ?_)))))
 iterate 5 refine xm rfl ?_
 refine xo rfl (fun _ => ok_add rfl (vl rfl) (vl rfl) ?hin) ?_; case hin => unfold InI; omega
 refine xm rfl (xm rfl (xm rfl ?_))
 refine xo rfl (fun _ => ok_add rfl (vl rfl) (vl rfl) ?hin) ?_; case hin => unfold InI; omega
 refine xo rfl (fun _ => okp_indexSl rfl Tryz.underlying53 sz9 (vl rfl) (vl rfl) (by omega) (by omega)) (xrd 0 rfl rfl (rd_load1 rfl one9 (vl rfl) (cells1_atG (g := (fun t : List UInt8 => str t)) (by omega))) (xm rfl (xm rfl (xo rfl (fun _ => okp_indexSl rfl Tryz.underlying53 sz9 (vl rfl) (vl rfl) (by omega) (by omega)) (xrd 0 rfl rfl (rd_load1 rfl one9 (vl rfl) (cells1_atG (g := (fun t : List UInt8 => str t)) (by omega))) (xo rfl (fun _ => okp_indexSl rfl Tryz.underlying53 sz9 (vl rfl) (vl rfl) (by omega) (by omega)) ?_))))))
 refine Cx.ef0 0 rfl rfl (ef_store rfl rfl (vl rfl) (VL.le (vl rfl) (one_cellsP _)) sz9 rfl (by rw [cells_len (sz := 1) (fun _ => rfl)]; omega) (cells_setG (f := (fun t : List UInt8 => [str t])) (fun _ => rfl) (by omega))) ?_
 refine xo rfl (fun _ => okp_indexSl rfl Tryz.underlying53 sz9 (vl rfl) (vl rfl) (by omega) (by omega)) ?_
 refine Cx.ef0 0 rfl rfl (ef_store rfl rfl (vl rfl) (VL.le (vl rfl) (one_cellsP _)) sz9 rfl (by rw [cells_len (sz := 1) (fun _ => rfl)]; simp only [List.length_set]; omega) (cells_setG (f := (fun t : List UInt8 => [str t])) (fun _ => rfl) (by simp only [List.length_set]; omega))) ?_
 refine Cx.nil ⟨rfl, ?_⟩
 refine FinX.done (AllC.cons (AllC.cons (AllC.map _))) (Fin.go (wk4 0 6 7 10 rfl (Tr.regT ?_)))
 iterate 4 refine tm rfl ?_
 refine TO.efc 0 rfl rfl (by decide) (ef_callc rfl rfl (by decide) rfl (w_ssiftOs hc (by simp only [List.length_set]; omega) (by omega) (by omega) (by omega) (by omega) (by omega)) ⟨ke rfl, ke rfl, ke rfl, ke rfl, trivial⟩) ?_
 refine TO.openL 0 rfl fun t2 hp2 => ?_
 have hpl2 := hp2.len
 refine TO.nil (Fin.block (Fin.go (Tr.reg0 (cm rfl (csu rfl rfl rfl rfl (by omega) (cm rfl (Ch.nil ?_)))))))
 exact Fin.famD2V0 (i2 - 1) (t2)  (⟨⟨⟨by omega, by omega⟩, by simp only [List.length_set] at hpl2; omega, by rw [hp2.2, sw (by omega) (by omega), show (a + i2).toNat = a.toNat + i2.toNat by omega]; exact (pop_go hib2).trans hso2⟩, by omega⟩) ⟨ke rfl, ke rfl, ke rfl, ke rfl, trivial⟩ (fun _ _ h => h)
 have hib2 : ¬ 0 ≤ i2 := of_decide_eq_false h2
 rw [pop_end hib2] at hso2
 refine Tr.exit (Fin.then_exit (Fin.then_exit (Fin.block_here ?_)))
 refine Fin.closeL (SortL c a b l) 0 rfl (by unfold SortL; rw [hso2, hso]; exact heap_holds hw l.toArray h0 hab (by simp only [List.size_toArray]; omega)) ?_
 exact Fin.retM0 rfl
set_option maxRecDepth 20000 in
theorem w_srevOs {l : List (List UInt8)} {c : List UInt8 × List UInt8 → Int} {b0 cap len : Nat} {sp : List Value} {a b : Int} (hc : ∀ x y, c (x, y) = Lib.compareBytes x y) (hln : l.length = len) (hll : len ≤ 1000000) (h0 : 0 ≤ a) (hab : a < b) (hb : b ≤ len) : FunM Tryz.prog 246 [is (.slice (some ⟨b0, 0, none⟩) len cap), int a, int b] (unit_) (cellsRes true b0 9 ((l.map (fun t : List UInt8 => [str t])).flatten ++ sp.map is)) (fun _ => relRes b0 9 (fun t : List UInt8 => [str t]) (PermL a b l) (sp.map is)) := by
 refine FunM.of Tryz.func246 rfl rfl (by exact Nat.le_of_ble_eq_true rfl) fun M0 w0 S rs M1 w1 => ?_
 refine Tr.seq (Tr.reg0 (cm rfl (cm rfl (Ch.nil (Fin.go (Tr.seq (Tr.reg0 (cm rfl (csu rfl rfl rfl rfl (by omega) (cm rfl (Ch.nil (Fin.go (Tr.block (Tr.loopD3V0 [(0, _)] ⟨ke rfl, trivial⟩ (fun (i : Int) (j : Int) (st : List (List UInt8)) => [(6, int i), (7, int j)]) (fun (i : Int) (j : Int) (st : List (List UInt8)) => Hp M0 w0 S (cellsRes true b0 9 ((st.map (fun t : List UInt8 => [str t])).flatten ++ sp.map is) :: extRes M1 w1 :: rs)) (fun (i : Int) (j : Int) (st : List (List UInt8)) => (a ≤ i ∧ j < b ∧ -1 ≤ j ∧ i ≤ b) ∧ st.length = len ∧ PermL a b l st) (fun (i : Int) (j : Int) (st : List (List UInt8)) => (j - i).toNat) (a) (b - 1) (l)  (⟨⟨by omega, by omega, by omega, by omega⟩, by omega, PermL.refl _ _ _⟩) ⟨ke rfl, ke rfl, trivial⟩ (fun _ _ h => h) ?_))))))))))))))
 rintro i j st  ⟨⟨hi1, hi2, hi3, hi4⟩, hsl, hso⟩
 refine Tr.seq (Tr.seq (Tr.reg0 (cm rfl (cm rfl (co rfl (ki rfl rfl rfl rfl) (Ch.nil (Fin.go ?_)))))))
 refine Tr.cn rfl ?_ ?_ <;> intro h1 q1
 have hij : i < j := of_decide_eq_true h1
 refine Tr.skip (Fin.go (Tr.block (Tr.seq (Tr.regX mixed [none, none, none, none, none, none, none, some (0, 0, false, 0), none, none, none, some (0, 0, false, 0), none, some (0, 0, true, 0), none, some (0, 0, true, 0)] (by kernel_rfl) ?_))))
 iterate 6 refine xm rfl ?_
 refine xo rfl (fun _ => okp_indexSl rfl Tryz.underlying53 sz9 (vl rfl) (vl rfl) (by omega) (by omega)) (xrd 0 rfl rfl (rd_load1 rfl one9 (vl rfl) (cells1_atG (g := (fun t : List UInt8 => str t)) (by omega))) (xm rfl (xm rfl (xo rfl (fun _ => okp_indexSl rfl Tryz.underlying53 sz9 (vl rfl) (vl rfl) (by omega) (by omega)) (xrd 0 rfl rfl (rd_load1 rfl one9 (vl rfl) (cells1_atG (g := (fun t : List UInt8 => str t)) (by omega))) (xo rfl (fun _ => okp_indexSl rfl Tryz.underlying53 sz9 (vl rfl) (vl rfl) (by omega) (by omega)) ?_))))))
 refine Cx.ef0 0 rfl rfl (ef_store rfl rfl (vl rfl) (VL.le (vl rfl) (one_cellsP _)) sz9 rfl (by rw [cells_len (sz := 1) (fun _ => rfl)]; omega) (cells_setG (f := (fun t : List UInt8 => [str t])) (fun _ => rfl) (by omega))) ?_
 refine xo rfl (fun _ => okp_indexSl rfl Tryz.underlying53 sz9 (vl rfl) (vl rfl) (by omega) (by omega)) ?_
 refine Cx.ef0 0 rfl rfl (ef_store rfl rfl (vl rfl) (VL.le (vl rfl) (one_cellsP _)) sz9 rfl (by rw [cells_len (sz := 1) (fun _ => rfl)]; simp only [List.length_set]; omega) (cells_setG (f := (fun t : List UInt8 => [str t])) (fun _ => rfl) (by simp only [List.length_set]; omega))) ?_
 refine Cx.nil ⟨rfl, ?_⟩
 refine FinX.done (AllC.cons (AllC.cons (AllC.map _))) (Fin.go (wk3 0 6 7 rfl (Tr.seq (Tr.reg0 (cm rfl (cad rfl rfl rfl rfl (by omega) (cm rfl (Ch.nil (Fin.go (Tr.reg0 (cm rfl (csu rfl rfl rfl rfl (by omega) (cm rfl ?_)))))))))))))
 refine Ch.nil (Fin.block ?_)
 exact Fin.famD3V0 (i + 1) (j - 1) (_)  (⟨⟨⟨by omega, by omega, by omega, by omega⟩, by simp only [List.length_set]; exact hsl, hso.swap (by omega) (by omega) (by omega) (by omega) (by omega) (by omega) (by omega)⟩, by omega⟩) ⟨ke rfl, ke rfl, ke rfl, trivial⟩ (fun _ _ h => h)
 have := h1
 refine Tr.exit (Fin.then_exit (Fin.then_exit (Fin.block_here (Fin.closeL (PermL a b l) 0 rfl (hso) (Fin.retM0 rfl)))))
set_option maxRecDepth 20000 in
theorem w_speqOs {l : List (List UInt8)} {c : List UInt8 × List UInt8 → Int} {b0 cap len : Nat} {sp : List Value} {a b pv : Int} (hc : ∀ x y, c (x, y) = Lib.compareBytes x y) (hln : l.length = len) (hll : len ≤ 1000000) (h0 : 0 ≤ a) (hab : a < b) (hb : b ≤ len) (hp1 : a ≤ pv) (hp2 : pv < b) : FunM Tryz.prog 248 [is (.slice (some ⟨b0, 0, none⟩) len cap), int a, int b, int pv] (int ((PE c a b pv l).1 : Nat)) (cellsRes true b0 9 ((l.map (fun t : List UInt8 => [str t])).flatten ++ sp.map is)) (fun _ => relRes b0 9 (fun t : List UInt8 => [str t]) (PartE c a b pv l) (sp.map is)) := by
 refine FunM.of Tryz.func248 rfl rfl (by exact Nat.le_of_ble_eq_true rfl) fun M0 w0 S rs M1 w1 => ?_
 have hal : a.toNat < l.length := by omega
 have hpv : pv.toNat < l.length := by omega
 refine Tr.seq (Tr.reg0 (cm rfl (Ch.nil (Fin.go (Tr.seq (Tr.regX mixed [none, none, none, none, none, none, none, some (0, 0, false, 0), none, none, none, some (0, 0, false, 0), none, some (0, 0, true, 0), none, some (0, 0, true, 0)] (by kernel_rfl) ?_))))))
 iterate 6 refine xm rfl ?_
 refine xo rfl (fun _ => okp_indexSl rfl Tryz.underlying53 sz9 (vl rfl) (vl rfl) (by omega) (by omega)) (xrd 0 rfl rfl (rd_load1 rfl one9 (vl rfl) (cells1_atG (g := (fun t : List UInt8 => str t)) (by omega))) (xm rfl (xm rfl (xo rfl (fun _ => okp_indexSl rfl Tryz.underlying53 sz9 (vl rfl) (vl rfl) (by omega) (by omega)) (xrd 0 rfl rfl (rd_load1 rfl one9 (vl rfl) (cells1_atG (g := (fun t : List UInt8 => str t)) (by omega))) (xo rfl (fun _ => okp_indexSl rfl Tryz.underlying53 sz9 (vl rfl) (vl rfl) (by omega) (by omega)) ?_))))))
 refine Cx.ef0 0 rfl rfl (ef_store rfl rfl (vl rfl) (VL.le (vl rfl) (one_cellsP _)) sz9 rfl (by rw [cells_len (sz := 1) (fun _ => rfl)]; omega) (cells_setG (f := (fun t : List UInt8 => [str t])) (fun _ => rfl) (by omega))) ?_
 refine xo rfl (fun _ => okp_indexSl rfl Tryz.underlying53 sz9 (vl rfl) (vl rfl) (by omega) (by omega)) ?_
 refine Cx.ef0 0 rfl rfl (ef_store rfl rfl (vl rfl) (VL.le (vl rfl) (one_cellsP _)) sz9 rfl (by rw [cells_len (sz := 1) (fun _ => rfl)]; simp only [List.length_set]; omega) (cells_setG (f := (fun t : List UInt8 => [str t])) (fun _ => rfl) (by simp only [List.length_set]; omega))) ?_
 refine Cx.nil ⟨rfl, ?_⟩
 refine FinX.done (AllC.cons (AllC.cons (AllC.map _))) (Fin.go (wk3 0 1 2 rfl (Tr.seq (Tr.reg0 (cm rfl (cad rfl rfl rfl rfl (by omega) (cm rfl (csu rfl rfl rfl rfl (by omega) (cm rfl (cm rfl (Ch.nil (Fin.go (Tr.seq (Tr.block ?_))))))))))))))
 refine Tr.loopD3V0 [(0, _), (1, _)] ⟨ke rfl, ke rfl, trivial⟩ (fun (i : Int) (j : Int) (st : List (List UInt8)) => [(9, int i), (10, int j)]) (fun (i : Int) (j : Int) (st : List (List UInt8)) => Hp M0 w0 S (cellsRes true b0 9 ((st.map (fun t : List UInt8 => [str t])).flatten ++ sp.map is) :: extRes M1 w1 :: rs)) (fun (i : Int) (j : Int) (st : List (List UInt8)) => ((a < i ∧ i ≤ b) ∧ a ≤ j ∧ j < b) ∧ st.length = len ∧ PLe c a i j st.toArray = PE c a b pv l) (fun (i : Int) (j : Int) (st : List (List UInt8)) => (j - i + 2).toNat) (a + 1) (b - 1) (((l.set a.toNat (l[pv.toNat]'hpv)).set pv.toNat (l[a.toNat]'hal)))  (⟨⟨⟨by omega, by omega⟩, by omega, by omega⟩, by simp only [List.length_set]; exact hln, pe_start h0 hab hal hpv⟩) ⟨ke rfl, ke rfl, trivial⟩ (fun _ _ h => h) ?_
 rintro i j st  ⟨⟨⟨hi1, hi2⟩, hj1, hj2⟩, hsl, hso⟩
 refine Tr.block (wk4 0 1 9 10 rfl (Tr.cutk [0, 1, 10] [(9, ex fun y : Int => fact ((i ≤ y ∧ y ≤ b) ∧ True ∧ y.toNat = Go.Sort.scanUp (qU c st.toArray a) st.toArray (j).toNat (i).toNat) (int y))] (True) ?_ (fun h1 => ?_)))
 refine Tr.block (Tr.loopw [(0, _), (1, _), (10, _)] (kk3 rfl) (fun y : Int => [(9, int y)]) (fun y : Int => (i ≤ y ∧ y ≤ b) ∧ Go.Sort.scanUp (qU c st.toArray a) st.toArray (j).toNat (y).toNat = Go.Sort.scanUp (qU c st.toArray a) st.toArray (j).toNat (i).toNat) (fun y : Int => (b - y).toNat) i (⟨⟨by omega, by omega⟩, rfl⟩) ⟨ke rfl, trivial⟩ ?_)
 rintro y ⟨⟨hscAa, hscAb⟩, hscAc⟩
 refine Tr.seq (Tr.seq (Tr.reg1 mixed (by kernel_rfl) (cm rfl (cm rfl (co rfl (ki rfl rfl rfl rfl) (cm rfl ?_))))))
 refine Ch.cs 32 rfl ?_ ?_ <;> intro h2 q2
 refine cym h2 rfl (cym h2 rfl (cy h2 rfl (okp_indexSl rfl Tryz.underlying53 sz9 (vl rfl) (vl rfl) (by omega) (by omega)) (cy h2 rfl (ok_rd 0 rfl (rd_load1 rfl one9 (vl rfl) (cells1_atG (g := (fun t : List UInt8 => str t)) (by omega)))) (cym h2 rfl (cym h2 rfl (cy h2 rfl (okp_indexSl rfl Tryz.underlying53 sz9 (vl rfl) (vl rfl) (by omega) (by omega)) (cy h2 rfl (ok_rd 0 rfl (rd_load1 rfl one9 (vl rfl) (cells1_atG (g := (fun t : List UInt8 => str t)) (by omega)))) (cy h2 rfl (ok_call rfl (w_lessCOs hc) ⟨ke rfl, ke rfl, trivial⟩) (cy h2 rfl (ok_not rfl (vl rfl)) (co rfl (kpt rfl rfl h2 rfl) (Ch.nil (Fin.go (wk5 0 1 9 10 43 rfl ?_)))))))))))))
 refine Tr.cn rfl ?_ ?_ <;> intro h3 q3
 have := h3
 refine Tr.skip (Fin.go (Tr.block (Tr.reg0 (cm rfl (cad rfl rfl rfl rfl (by omega) (cm rfl (Ch.nil (Fin.block ?_))))))))
 exact Fin.fam_same (y + 1) ⟨⟨⟨by omega, by omega⟩, by rw [su_go (by omega) (by omega) (by omega) (qU_t (by omega) (by omega) (Int.not_lt.2 (by assumption)))]; exact hscAc⟩, by omega⟩ (kk4 rfl)
 have := h3
 refine Tr.exit (Fin.then_exit (Fin.then_exit (Fin.block_here ?_)))
 exact Fin.fam_same () trivial ⟨⟨_, rfl, ex_in _ (fact_in ⟨⟨by omega, by omega⟩, trivial, by rw [← hscAc]; exact (su_stopB (by omega) (qU_f (by omega) (by omega) (by assumption))).symm⟩ (Pr.le_refl _))⟩, ke rfl, ke rfl, ke rfl, trivial⟩
 iterate 10 refine cnt h2 rfl ?_
 refine co rfl (kpf rfl rfl h2 rfl) (Ch.nil (Fin.go (wk5 0 1 9 10 43 rfl (Tr.cond rfl (fun h => nomatch h) (fun _ => ?_)))))
 refine Tr.exit (Fin.then_exit (Fin.then_exit (Fin.block_here ?_)))
 exact Fin.fam_same () trivial ⟨⟨_, rfl, ex_in _ (fact_in ⟨⟨by omega, by omega⟩, trivial, by rw [← hscAc]; exact (su_stopA (by omega) (by omega)).symm⟩ (Pr.le_refl _))⟩, ke rfl, ke rfl, ke rfl, trivial⟩
 refine Tr.ex 9 rfl (fun i2 => Tr.fact 9 rfl fun hci2 => ?_)
 obtain ⟨hci2a, hci2b, hci2c⟩ := hci2
 refine wk4 0 1 9 10 rfl (Tr.cutk [0, 1, 9] [(10, ex fun y : Int => fact ((a ≤ y ∧ y ≤ j) ∧ True ∧ y.toNat = Go.Sort.scanDown (qD c st.toArray a) st.toArray (i2).toNat (j).toNat) (int y))] (True) ?_ (fun h4 => ?_))
 refine Tr.block (Tr.loopw [(0, _), (1, _), (9, _)] (kk3 rfl) (fun y : Int => [(10, int y)]) (fun y : Int => (a ≤ y ∧ y ≤ j) ∧ Go.Sort.scanDown (qD c st.toArray a) st.toArray (i2).toNat (y).toNat = Go.Sort.scanDown (qD c st.toArray a) st.toArray (i2).toNat (j).toNat) (fun y : Int => (y - a).toNat) j (⟨⟨by omega, by omega⟩, rfl⟩) ⟨ke rfl, trivial⟩ ?_)
 rintro y ⟨⟨hscBa, hscBb⟩, hscBc⟩
 refine Tr.seq (Tr.seq (Tr.reg1 mixed (by kernel_rfl) (cm rfl (cm rfl (co rfl (ki rfl rfl rfl rfl) (cm rfl ?_))))))
 refine Ch.cs 49 rfl ?_ ?_ <;> intro h5 q5
 refine cym h5 rfl (cym h5 rfl (cy h5 rfl (okp_indexSl rfl Tryz.underlying53 sz9 (vl rfl) (vl rfl) (by omega) (by omega)) (cy h5 rfl (ok_rd 0 rfl (rd_load1 rfl one9 (vl rfl) (cells1_atG (g := (fun t : List UInt8 => str t)) (by omega)))) (cym h5 rfl (cym h5 rfl (cy h5 rfl (okp_indexSl rfl Tryz.underlying53 sz9 (vl rfl) (vl rfl) (by omega) (by omega)) (cy h5 rfl (ok_rd 0 rfl (rd_load1 rfl one9 (vl rfl) (cells1_atG (g := (fun t : List UInt8 => str t)) (by omega)))) (cy h5 rfl (ok_call rfl (w_lessCOs hc) ⟨ke rfl, ke rfl, trivial⟩) (co rfl (kpt rfl rfl h5 rfl) (Ch.nil (Fin.go (wk5 0 1 9 10 59 rfl ?_))))))))))))
 refine Tr.cn rfl ?_ ?_ <;> intro h6 q6
 have := h6
 refine Tr.skip (Fin.go (Tr.block (Tr.reg0 (cm rfl (csu rfl rfl rfl rfl (by omega) (cm rfl (Ch.nil (Fin.block ?_))))))))
 exact Fin.fam_same (y - 1) ⟨⟨⟨by omega, by omega⟩, by rw [sd_go (by omega) (by omega) (by omega) (qD_t (by omega) (by omega) (by assumption))]; exact hscBc⟩, by omega⟩ (kk4 rfl)
 have := h6
 refine Tr.exit (Fin.then_exit (Fin.then_exit (Fin.block_here ?_)))
 exact Fin.fam_same () trivial ⟨⟨_, rfl, ex_in _ (fact_in ⟨⟨by omega, by omega⟩, trivial, by rw [← hscBc]; exact (sd_stopB (by omega) (qD_f (by omega) (by omega) (Int.not_lt.2 (by assumption)))).symm⟩ (Pr.le_refl _))⟩, ke rfl, ke rfl, ke rfl, trivial⟩
 iterate 9 refine cnt h5 rfl ?_
 refine co rfl (kpf rfl rfl h5 rfl) (Ch.nil (Fin.go (wk5 0 1 9 10 59 rfl (Tr.cond rfl (fun h => nomatch h) (fun _ => ?_)))))
 refine Tr.exit (Fin.then_exit (Fin.then_exit (Fin.block_here ?_)))
 exact Fin.fam_same () trivial ⟨⟨_, rfl, ex_in _ (fact_in ⟨⟨by omega, by omega⟩, trivial, by rw [← hscBc]; exact (sd_stopA (by omega) (by omega)).symm⟩ (Pr.le_refl _))⟩, ke rfl, ke rfl, ke rfl, trivial⟩
 refine Tr.ex 10 rfl (fun j2 => Tr.fact 10 rfl fun hcj2 => ?_)
 obtain ⟨hcj2a, hcj2b, hcj2c⟩ := hcj2
 refine Tr.seq (Tr.seq (Tr.reg0 (cm rfl (cm rfl (co rfl (ki rfl rfl rfl rfl) (Ch.nil (Fin.go ?_)))))))
 refine Tr.cn rfl ?_ ?_ <;> intro h7 q7
 refine Tr.exit (Fin.then_exit (Fin.block_on rfl (Fin.then_exit (Fin.block_here (Fin.go (Tr.seq (Tr.reg0 (cm rfl (cm rfl (Ch.nil (Fin.go (Tr.ret (Fin.closeL (PartE c a b pv l) 0 rfl (⟨by omega, by rw [hso.symm.trans (peq_stop hci2c hcj2c (by omega) (by omega))]⟩) ?_)))))))))))))
 have hE := hso.symm.trans (peq_stop hci2c hcj2c (by omega) (by omega))
 refine Fin.retM1 rfl rfl ?_ (fun _ _ _ _ => rfl)
 · exact int_eq (by rw [hE]; show i2 = ((i2.toNat : Nat) : Int); omega)
 refine Tr.skip (Fin.go (Tr.seq (Tr.regX mixed [none, none, none, none, none, none, none, some (0, 0, false, 0), none, none, none, some (0, 0, false, 0), none, some (0, 0, true, 0), none, some (0, 0, true, 0)] (by kernel_rfl) ?_)))
 iterate 6 refine xm rfl ?_
 refine xo rfl (fun _ => okp_indexSl rfl Tryz.underlying53 sz9 (vl rfl) (vl rfl) (by omega) (by omega)) (xrd 0 rfl rfl (rd_load1 rfl one9 (vl rfl) (cells1_atG (g := (fun t : List UInt8 => str t)) (by omega))) (xm rfl (xm rfl (xo rfl (fun _ => okp_indexSl rfl Tryz.underlying53 sz9 (vl rfl) (vl rfl) (by omega) (by omega)) (xrd 0 rfl rfl (rd_load1 rfl one9 (vl rfl) (cells1_atG (g := (fun t : List UInt8 => str t)) (by omega))) (xo rfl (fun _ => okp_indexSl rfl Tryz.underlying53 sz9 (vl rfl) (vl rfl) (by omega) (by omega)) ?_))))))
 refine Cx.ef0 0 rfl rfl (ef_store rfl rfl (vl rfl) (VL.le (vl rfl) (one_cellsP _)) sz9 rfl (by rw [cells_len (sz := 1) (fun _ => rfl)]; omega) (cells_setG (f := (fun t : List UInt8 => [str t])) (fun _ => rfl) (by omega))) ?_
 refine xo rfl (fun _ => okp_indexSl rfl Tryz.underlying53 sz9 (vl rfl) (vl rfl) (by omega) (by omega)) ?_
 refine Cx.ef0 0 rfl rfl (ef_store rfl rfl (vl rfl) (VL.le (vl rfl) (one_cellsP _)) sz9 rfl (by rw [cells_len (sz := 1) (fun _ => rfl)]; simp only [List.length_set]; omega) (cells_setG (f := (fun t : List UInt8 => [str t])) (fun _ => rfl) (by simp only [List.length_set]; omega))) ?_
 refine Cx.nil ⟨rfl, ?_⟩
 refine FinX.done (AllC.cons (AllC.cons (AllC.map _))) (Fin.go (wk4 0 1 9 10 rfl (Tr.seq (Tr.reg0 (cm rfl (cad rfl rfl rfl rfl (by omega) (cm rfl (Ch.nil (Fin.go (Tr.reg0 (cm rfl (csu rfl rfl rfl rfl (by omega) (cm rfl ?_)))))))))))))
 refine Ch.nil (Fin.block ?_)
 exact Fin.famD3V0 (i2 + 1) (j2 - 1) (_)  (⟨⟨⟨⟨by omega, by omega⟩, by omega, by omega⟩, by simp only [List.length_set]; exact hsl, (peq_go hci2c hcj2c (by omega) (by omega) (by omega) (by omega)).trans hso⟩, by omega⟩) ⟨ke rfl, ke rfl, ke rfl, ke rfl, trivial⟩ (fun _ _ h => h)
set_option maxRecDepth 20000 in
set_option maxHeartbeats 1000000 in
theorem w_spartOs {l : List (List UInt8)} {c : List UInt8 × List UInt8 → Int} {b0 cap len : Nat} {sp : List Value} {a b pv : Int} (hc : ∀ x y, c (x, y) = Lib.compareBytes x y) (hln : l.length = len) (hll : len ≤ 1000000) (h0 : 0 ≤ a) (hab : a < b) (hb : b ≤ len) (hp1 : a ≤ pv) (hp2 : pv < b) : FunM Tryz.prog 249 [is (.slice (some ⟨b0, 0, none⟩) len cap), int a, int b, int pv] (ex fun z : Bool => fact True (tup [int ((PA c a b pv l).1 : Nat), bool z])) (cellsRes true b0 9 ((l.map (fun t : List UInt8 => [str t])).flatten ++ sp.map is)) (fun _ => relRes b0 9 (fun t : List UInt8 => [str t]) (PartL c a b pv l) (sp.map is)) := by
 refine FunM.of Tryz.func249 rfl rfl (by exact Nat.le_of_ble_eq_true rfl) fun M0 w0 S rs M1 w1 => ?_
 have hal : a.toNat < l.length := by omega
 have hpv : pv.toNat < l.length := by omega
 have hS1 : ((l.set a.toNat (l[pv.toNat]'hpv)).set pv.toNat (l[a.toNat]'hal)).length = len := by simp only [List.length_set]; exact hln
 refine Tr.seq (Tr.reg0 (cm rfl (cm rfl (Ch.nil (Fin.go (Tr.seq (Tr.regX mixed [none, none, none, none, none, none, none, some (0, 0, false, 0), none, none, none, some (0, 0, false, 0), none, some (0, 0, true, 0), none, some (0, 0, true, 0)] (by kernel_rfl) ?_)))))))
 iterate 6 refine xm rfl ?_
 refine xo rfl (fun _ => okp_indexSl rfl Tryz.underlying53 sz9 (vl rfl) (vl rfl) (by omega) (by omega)) (xrd 0 rfl rfl (rd_load1 rfl one9 (vl rfl) (cells1_atG (g := (fun t : List UInt8 => str t)) (by omega))) (xm rfl (xm rfl (xo rfl (fun _ => okp_indexSl rfl Tryz.underlying53 sz9 (vl rfl) (vl rfl) (by omega) (by omega)) (xrd 0 rfl rfl (rd_load1 rfl one9 (vl rfl) (cells1_atG (g := (fun t : List UInt8 => str t)) (by omega))) (xo rfl (fun _ => okp_indexSl rfl Tryz.underlying53 sz9 (vl rfl) (vl rfl) (by omega) (by omega)) ?_))))))
 refine Cx.ef0 0 rfl rfl (ef_store rfl rfl (vl rfl) (VL.le (vl rfl) (one_cellsP _)) sz9 rfl (by rw [cells_len (sz := 1) (fun _ => rfl)]; omega) (cells_setG (f := (fun t : List UInt8 => [str t])) (fun _ => rfl) (by omega))) ?_
 refine xo rfl (fun _ => okp_indexSl rfl Tryz.underlying53 sz9 (vl rfl) (vl rfl) (by omega) (by omega)) ?_
 refine Cx.ef0 0 rfl rfl (ef_store rfl rfl (vl rfl) (VL.le (vl rfl) (one_cellsP _)) sz9 rfl (by rw [cells_len (sz := 1) (fun _ => rfl)]; simp only [List.length_set]; omega) (cells_setG (f := (fun t : List UInt8 => [str t])) (fun _ => rfl) (by simp only [List.length_set]; omega))) ?_
 refine Cx.nil ⟨rfl, ?_⟩
 refine FinX.done (AllC.cons (AllC.cons (AllC.map _))) (Fin.go (wk3 0 1 2 rfl (Tr.seq (Tr.reg0 (cm rfl (cad rfl rfl rfl rfl (by omega) (cm rfl (csu rfl rfl rfl rfl (by omega) (cm rfl (cm rfl (Ch.nil (Fin.go (wk4 0 1 10 11 rfl (Tr.cutk [0, 1, 11] [(10, ex fun y : Int => fact (((a + 1) ≤ y ∧ y ≤ b) ∧ True ∧ y.toNat = Go.Sort.scanUp (pU c ((l.set a.toNat (l[pv.toNat]'hpv)).set pv.toNat (l[a.toNat]'hal)).toArray a) ((l.set a.toNat (l[pv.toNat]'hpv)).set pv.toNat (l[a.toNat]'hal)).toArray ((b - 1)).toNat ((a + 1)).toNat) (int y))] (True) ?_ (fun h1 => ?_)))))))))))))))
 refine Tr.block (Tr.loopw [(0, _), (1, _), (11, _)] (kk3 rfl) (fun y : Int => [(10, int y)]) (fun y : Int => ((a + 1) ≤ y ∧ y ≤ b) ∧ Go.Sort.scanUp (pU c ((l.set a.toNat (l[pv.toNat]'hpv)).set pv.toNat (l[a.toNat]'hal)).toArray a) ((l.set a.toNat (l[pv.toNat]'hpv)).set pv.toNat (l[a.toNat]'hal)).toArray ((b - 1)).toNat (y).toNat = Go.Sort.scanUp (pU c ((l.set a.toNat (l[pv.toNat]'hpv)).set pv.toNat (l[a.toNat]'hal)).toArray a) ((l.set a.toNat (l[pv.toNat]'hpv)).set pv.toNat (l[a.toNat]'hal)).toArray ((b - 1)).toNat ((a + 1)).toNat) (fun y : Int => (b - y).toNat) (a + 1) (⟨⟨by omega, by omega⟩, rfl⟩) ⟨ke rfl, trivial⟩ ?_)
 rintro y ⟨⟨hscAa, hscAb⟩, hscAc⟩
 refine Tr.seq (Tr.seq (Tr.reg1 mixed (by kernel_rfl) (cm rfl (cm rfl (co rfl (ki rfl rfl rfl rfl) (cm rfl ?_))))))
 refine Ch.cs 33 rfl ?_ ?_ <;> intro h2 q2
 refine cym h2 rfl (cym h2 rfl (cy h2 rfl (okp_indexSl rfl Tryz.underlying53 sz9 (vl rfl) (vl rfl) (by omega) (by omega)) (cy h2 rfl (ok_rd 0 rfl (rd_load1 rfl one9 (vl rfl) (cells1_atG (g := (fun t : List UInt8 => str t)) (by omega)))) (cym h2 rfl (cym h2 rfl (cy h2 rfl (okp_indexSl rfl Tryz.underlying53 sz9 (vl rfl) (vl rfl) (by omega) (by omega)) (cy h2 rfl (ok_rd 0 rfl (rd_load1 rfl one9 (vl rfl) (cells1_atG (g := (fun t : List UInt8 => str t)) (by omega)))) (cy h2 rfl (ok_call rfl (w_lessCOs hc) ⟨ke rfl, ke rfl, trivial⟩) (co rfl (kpt rfl rfl h2 rfl) (Ch.nil (Fin.go (wk5 0 1 10 11 43 rfl ?_))))))))))))
 refine Tr.cn rfl ?_ ?_ <;> intro h3 q3
 have := h3
 refine Tr.skip (Fin.go (Tr.block (Tr.reg0 (cm rfl (cad rfl rfl rfl rfl (by omega) (cm rfl (Ch.nil (Fin.block ?_))))))))
 exact Fin.fam_same (y + 1) ⟨⟨⟨by omega, by omega⟩, by rw [su_go (by omega) (by omega) (by omega) (pU_t (by omega) (by omega) (by assumption))]; exact hscAc⟩, by omega⟩ (kk4 rfl)
 have := h3
 refine Tr.exit (Fin.then_exit (Fin.then_exit (Fin.block_here ?_)))
 exact Fin.fam_same () trivial ⟨⟨_, rfl, ex_in _ (fact_in ⟨⟨by omega, by omega⟩, trivial, by rw [← hscAc]; exact (su_stopB (by omega) (pU_f (by omega) (by omega) (Int.not_lt.2 (by assumption)))).symm⟩ (Pr.le_refl _))⟩, ke rfl, ke rfl, ke rfl, trivial⟩
 iterate 9 refine cnt h2 rfl ?_
 refine co rfl (kpf rfl rfl h2 rfl) (Ch.nil (Fin.go (wk5 0 1 10 11 43 rfl (Tr.cond rfl (fun h => nomatch h) (fun _ => ?_)))))
 refine Tr.exit (Fin.then_exit (Fin.then_exit (Fin.block_here ?_)))
 exact Fin.fam_same () trivial ⟨⟨_, rfl, ex_in _ (fact_in ⟨⟨by omega, by omega⟩, trivial, by rw [← hscAc]; exact (su_stopA (by omega) (by omega)).symm⟩ (Pr.le_refl _))⟩, ke rfl, ke rfl, ke rfl, trivial⟩
 refine Tr.ex 10 rfl (fun i1 => Tr.fact 10 rfl fun hci1 => ?_)
 obtain ⟨hci1a, hci1b, hci1c⟩ := hci1
 refine wk4 0 1 10 11 rfl (Tr.cutk [0, 1, 10] [(11, ex fun y : Int => fact ((a ≤ y ∧ y ≤ (b - 1)) ∧ True ∧ y.toNat = Go.Sort.scanDown (pD c ((l.set a.toNat (l[pv.toNat]'hpv)).set pv.toNat (l[a.toNat]'hal)).toArray a) ((l.set a.toNat (l[pv.toNat]'hpv)).set pv.toNat (l[a.toNat]'hal)).toArray (i1).toNat ((b - 1)).toNat) (int y))] (True) ?_ (fun h4 => ?_))
 refine Tr.block (Tr.loopw [(0, _), (1, _), (10, _)] (kk3 rfl) (fun y : Int => [(11, int y)]) (fun y : Int => (a ≤ y ∧ y ≤ (b - 1)) ∧ Go.Sort.scanDown (pD c ((l.set a.toNat (l[pv.toNat]'hpv)).set pv.toNat (l[a.toNat]'hal)).toArray a) ((l.set a.toNat (l[pv.toNat]'hpv)).set pv.toNat (l[a.toNat]'hal)).toArray (i1).toNat (y).toNat = Go.Sort.scanDown (pD c ((l.set a.toNat (l[pv.toNat]'hpv)).set pv.toNat (l[a.toNat]'hal)).toArray a) ((l.set a.toNat (l[pv.toNat]'hpv)).set pv.toNat (l[a.toNat]'hal)).toArray (i1).toNat ((b - 1)).toNat) (fun y : Int => (y - a).toNat) (b - 1) (⟨⟨by omega, by omega⟩, rfl⟩) ⟨ke rfl, trivial⟩ ?_)
 rintro y ⟨⟨hscBa, hscBb⟩, hscBc⟩
 refine Tr.seq (Tr.seq (Tr.reg1 mixed (by kernel_rfl) (cm rfl (cm rfl (co rfl (ki rfl rfl rfl rfl) (cm rfl ?_))))))
 refine Ch.cs 49 rfl ?_ ?_ <;> intro h5 q5
 refine cym h5 rfl (cym h5 rfl (cy h5 rfl (okp_indexSl rfl Tryz.underlying53 sz9 (vl rfl) (vl rfl) (by omega) (by omega)) (cy h5 rfl (ok_rd 0 rfl (rd_load1 rfl one9 (vl rfl) (cells1_atG (g := (fun t : List UInt8 => str t)) (by omega)))) (cym h5 rfl (cym h5 rfl (cy h5 rfl (okp_indexSl rfl Tryz.underlying53 sz9 (vl rfl) (vl rfl) (by omega) (by omega)) (cy h5 rfl (ok_rd 0 rfl (rd_load1 rfl one9 (vl rfl) (cells1_atG (g := (fun t : List UInt8 => str t)) (by omega)))) (cy h5 rfl (ok_call rfl (w_lessCOs hc) ⟨ke rfl, ke rfl, trivial⟩) (cy h5 rfl (ok_not rfl (vl rfl)) (co rfl (kpt rfl rfl h5 rfl) (Ch.nil (Fin.go (wk5 0 1 10 11 60 rfl ?_)))))))))))))
 refine Tr.cn rfl ?_ ?_ <;> intro h6 q6
 have := h6
 refine Tr.skip (Fin.go (Tr.block (Tr.reg0 (cm rfl (csu rfl rfl rfl rfl (by omega) (cm rfl (Ch.nil (Fin.block ?_))))))))
 exact Fin.fam_same (y - 1) ⟨⟨⟨by omega, by omega⟩, by rw [sd_go (by omega) (by omega) (by omega) (pD_t (by omega) (by omega) (Int.not_lt.2 (by assumption)))]; exact hscBc⟩, by omega⟩ (kk4 rfl)
 have := h6
 refine Tr.exit (Fin.then_exit (Fin.then_exit (Fin.block_here ?_)))
 exact Fin.fam_same () trivial ⟨⟨_, rfl, ex_in _ (fact_in ⟨⟨by omega, by omega⟩, trivial, by rw [← hscBc]; exact (sd_stopB (by omega) (pD_f (by omega) (by omega) (by assumption))).symm⟩ (Pr.le_refl _))⟩, ke rfl, ke rfl, ke rfl, trivial⟩
 iterate 10 refine cnt h5 rfl ?_
 refine co rfl (kpf rfl rfl h5 rfl) (Ch.nil (Fin.go (wk5 0 1 10 11 60 rfl (Tr.cond rfl (fun h => nomatch h) (fun _ => ?_)))))
 refine Tr.exit (Fin.then_exit (Fin.then_exit (Fin.block_here ?_)))
 exact Fin.fam_same () trivial ⟨⟨_, rfl, ex_in _ (fact_in ⟨⟨by omega, by omega⟩, trivial, by rw [← hscBc]; exact (sd_stopA (by omega) (by omega)).symm⟩ (Pr.le_refl _))⟩, ke rfl, ke rfl, ke rfl, trivial⟩
 refine Tr.ex 11 rfl (fun j1 => Tr.fact 11 rfl fun hcj1 => ?_)
 obtain ⟨hcj1a, hcj1b, hcj1c⟩ := hcj1
 refine Tr.seq (Tr.seq (Tr.reg0 (cm rfl (cm rfl (co rfl (ki rfl rfl rfl rfl) (Ch.nil (Fin.go ?_)))))))
 refine Tr.cn rfl ?_ ?_ <;> intro h7 q7
 refine Tr.seq (Tr.regX mixed [none, none, none, none, none, none, none, some (0, 0, false, 0), none, none, none, some (0, 0, false, 0), none, some (0, 0, true, 0), none, some (0, 0, true, 0)] (by kernel_rfl) ?_)
 iterate 6 refine xm rfl ?_
 refine xo rfl (fun _ => okp_indexSl rfl Tryz.underlying53 sz9 (vl rfl) (vl rfl) (by omega) (by omega)) (xrd 0 rfl rfl (rd_load1 rfl one9 (vl rfl) (cells1_atG (g := (fun t : List UInt8 => str t)) (by omega))) (xm rfl (xm rfl (xo rfl (fun _ => okp_indexSl rfl Tryz.underlying53 sz9 (vl rfl) (vl rfl) (by omega) (by omega)) (xrd 0 rfl rfl (rd_load1 rfl one9 (vl rfl) (cells1_atG (g := (fun t : List UInt8 => str t)) (by omega))) (xo rfl (fun _ => okp_indexSl rfl Tryz.underlying53 sz9 (vl rfl) (vl rfl) (by omega) (by omega)) ?_))))))
 refine Cx.ef0 0 rfl rfl (ef_store rfl rfl (vl rfl) (VL.le (vl rfl) (one_cellsP _)) sz9 rfl (by rw [cells_len (sz := 1) (fun _ => rfl)]; omega) (cells_setG (f := (fun t : List UInt8 => [str t])) (fun _ => rfl) (by omega))) ?_
 refine xo rfl (fun _ => okp_indexSl rfl Tryz.underlying53 sz9 (vl rfl) (vl rfl) (by omega) (by omega)) ?_
 refine Cx.ef0 0 rfl rfl (ef_store rfl rfl (vl rfl) (VL.le (vl rfl) (one_cellsP _)) sz9 rfl (by rw [cells_len (sz := 1) (fun _ => rfl)]; simp only [List.length_set]; omega) (cells_setG (f := (fun t : List UInt8 => [str t])) (fun _ => rfl) (by simp only [List.length_set]; omega))) ?_
 refine Cx.nil ⟨rfl, ?_⟩
 refine FinX.done (AllC.cons (AllC.cons (AllC.map _))) (Fin.go (wk1 11 rfl (Tr.seq (Tr.reg0 (cm rfl (cm rfl (cm rfl (Ch.nil (Fin.go (Tr.ret (Fin.then_ret (Fin.closeL (PartL c a b pv l) 0 rfl (⟨by simp only [List.length_set], (pa_start h0 hab hal hpv (part_stop hci1c hcj1c (by omega) (by omega)) (by omega) (by omega)).2⟩) (Fin.retY2 [] rfl (RVal.tmp rfl (Pr.le_refl _)) (RVal.tmp rfl (Pr.le_refl _)) ?_)))))))))))))
 · exact ex_in true (fact_in trivial (Pr.le_of_eq (by rw [(pa_start h0 hab hal hpv (part_stop hci1c hcj1c (by omega) (by omega)) (by omega) (by omega)).1, Int.toNat_of_nonneg (by omega)])))
 refine Tr.skip (Fin.go (Tr.seq (Tr.regX mixed [none, none, none, none, none, none, none, some (0, 0, false, 0), none, none, none, some (0, 0, false, 0), none, some (0, 0, true, 0), none, some (0, 0, true, 0)] (by kernel_rfl) ?_)))
 iterate 6 refine xm rfl ?_
 refine xo rfl (fun _ => okp_indexSl rfl Tryz.underlying53 sz9 (vl rfl) (vl rfl) (by omega) (by omega)) (xrd 0 rfl rfl (rd_load1 rfl one9 (vl rfl) (cells1_atG (g := (fun t : List UInt8 => str t)) (by omega))) (xm rfl (xm rfl (xo rfl (fun _ => okp_indexSl rfl Tryz.underlying53 sz9 (vl rfl) (vl rfl) (by omega) (by omega)) (xrd 0 rfl rfl (rd_load1 rfl one9 (vl rfl) (cells1_atG (g := (fun t : List UInt8 => str t)) (by omega))) (xo rfl (fun _ => okp_indexSl rfl Tryz.underlying53 sz9 (vl rfl) (vl rfl) (by omega) (by omega)) ?_))))))
 refine Cx.ef0 0 rfl rfl (ef_store rfl rfl (vl rfl) (VL.le (vl rfl) (one_cellsP _)) sz9 rfl (by rw [cells_len (sz := 1) (fun _ => rfl)]; omega) (cells_setG (f := (fun t : List UInt8 => [str t])) (fun _ => rfl) (by omega))) ?_
 refine xo rfl (fun _ => okp_indexSl rfl Tryz.underlying53 sz9 (vl rfl) (vl rfl) (by omega) (by omega)) ?_
 refine Cx.ef0 0 rfl rfl (ef_store rfl rfl (vl rfl) (VL.le (vl rfl) (one_cellsP _)) sz9 rfl (by rw [cells_len (sz := 1) (fun _ => rfl)]; simp only [List.length_set]; omega) (cells_setG (f := (fun t : List UInt8 => [str t])) (fun _ => rfl) (by simp only [List.length_set]; omega))) ?_
 refine Cx.nil ⟨rfl, ?_⟩
 refine FinX.done (AllC.cons (AllC.cons (AllC.map _))) (Fin.go (wk4 0 1 10 11 rfl (Tr.seq (Tr.reg0 (cm rfl (cad rfl rfl rfl rfl (by omega) (cm rfl (Ch.nil (Fin.go (Tr.seq (Tr.reg0 (cm rfl (csu rfl rfl rfl rfl (by omega) ?_)))))))))))))
 refine cm rfl (Ch.nil (Fin.go (Tr.seq (Tr.block ?_))))
 refine Tr.loopD3V0 [(0, _), (1, _)] ⟨ke rfl, ke rfl, trivial⟩ (fun (i : Int) (j : Int) (st : List (List UInt8)) => [(10, int i), (11, int j)]) (fun (i : Int) (j : Int) (st : List (List UInt8)) => Hp M0 w0 S (cellsRes true b0 9 ((st.map (fun t : List UInt8 => [str t])).flatten ++ sp.map is) :: extRes M1 w1 :: rs)) (fun (i : Int) (j : Int) (st : List (List UInt8)) => ((a < i ∧ i ≤ b) ∧ a ≤ j ∧ j < b) ∧ st.length = len ∧ PLp c a i j st.toArray = PLp c a (a + 1) (b - 1) ((l.set a.toNat (l[pv.toNat]'hpv)).set pv.toNat (l[a.toNat]'hal)).toArray) (fun (i : Int) (j : Int) (st : List (List UInt8)) => (j - i + 2).toNat) (i1 + 1) (j1 - 1) (_)  (⟨⟨⟨by omega, by omega⟩, by omega, by omega⟩, by simp only [List.length_set]; exact hln, part_go hci1c hcj1c (by omega) (by omega) (by omega) (by omega)⟩) ⟨ke rfl, ke rfl, trivial⟩ (fun _ _ h => h) ?_
 rintro i j st  ⟨⟨⟨hi1, hi2⟩, hj1, hj2⟩, hsl, hso⟩
 refine Tr.block (wk4 0 1 10 11 rfl (Tr.cutk [0, 1, 11] [(10, ex fun y : Int => fact ((i ≤ y ∧ y ≤ b) ∧ True ∧ y.toNat = Go.Sort.scanUp (pU c st.toArray a) st.toArray (j).toNat (i).toNat) (int y))] (True) ?_ (fun h8 => ?_)))
 refine Tr.block (Tr.loopw [(0, _), (1, _), (11, _)] (kk3 rfl) (fun y : Int => [(10, int y)]) (fun y : Int => (i ≤ y ∧ y ≤ b) ∧ Go.Sort.scanUp (pU c st.toArray a) st.toArray (j).toNat (y).toNat = Go.Sort.scanUp (pU c st.toArray a) st.toArray (j).toNat (i).toNat) (fun y : Int => (b - y).toNat) i (⟨⟨by omega, by omega⟩, rfl⟩) ⟨ke rfl, trivial⟩ ?_)
 rintro y ⟨⟨hscAa, hscAb⟩, hscAc⟩
 refine Tr.seq (Tr.seq (Tr.reg1 mixed (by kernel_rfl) (cm rfl (cm rfl (co rfl (ki rfl rfl rfl rfl) (cm rfl ?_))))))
 refine Ch.cs 102 rfl ?_ ?_ <;> intro h9 q9
 refine cym h9 rfl (cym h9 rfl (cy h9 rfl (okp_indexSl rfl Tryz.underlying53 sz9 (vl rfl) (vl rfl) (by omega) (by omega)) (cy h9 rfl (ok_rd 0 rfl (rd_load1 rfl one9 (vl rfl) (cells1_atG (g := (fun t : List UInt8 => str t)) (by omega)))) (cym h9 rfl (cym h9 rfl (cy h9 rfl (okp_indexSl rfl Tryz.underlying53 sz9 (vl rfl) (vl rfl) (by omega) (by omega)) (cy h9 rfl (ok_rd 0 rfl (rd_load1 rfl one9 (vl rfl) (cells1_atG (g := (fun t : List UInt8 => str t)) (by omega)))) (cy h9 rfl (ok_call rfl (w_lessCOs hc) ⟨ke rfl, ke rfl, trivial⟩) (co rfl (kpt rfl rfl h9 rfl) (Ch.nil (Fin.go (wk5 0 1 10 11 112 rfl ?_))))))))))))
 refine Tr.cn rfl ?_ ?_ <;> intro h10 q10
 have := h10
 refine Tr.skip (Fin.go (Tr.block (Tr.reg0 (cm rfl (cad rfl rfl rfl rfl (by omega) (cm rfl (Ch.nil (Fin.block ?_))))))))
 exact Fin.fam_same (y + 1) ⟨⟨⟨by omega, by omega⟩, by rw [su_go (by omega) (by omega) (by omega) (pU_t (by omega) (by omega) (by assumption))]; exact hscAc⟩, by omega⟩ (kk4 rfl)
 have := h10
 refine Tr.exit (Fin.then_exit (Fin.then_exit (Fin.block_here ?_)))
 exact Fin.fam_same () trivial ⟨⟨_, rfl, ex_in _ (fact_in ⟨⟨by omega, by omega⟩, trivial, by rw [← hscAc]; exact (su_stopB (by omega) (pU_f (by omega) (by omega) (Int.not_lt.2 (by assumption)))).symm⟩ (Pr.le_refl _))⟩, ke rfl, ke rfl, ke rfl, trivial⟩
 iterate 9 refine cnt h9 rfl ?_
 refine co rfl (kpf rfl rfl h9 rfl) (Ch.nil (Fin.go (wk5 0 1 10 11 112 rfl (Tr.cond rfl (fun h => nomatch h) (fun _ => ?_)))))
 refine Tr.exit (Fin.then_exit (Fin.then_exit (Fin.block_here ?_)))
 exact Fin.fam_same () trivial ⟨⟨_, rfl, ex_in _ (fact_in ⟨⟨by omega, by omega⟩, trivial, by rw [← hscAc]; exact (su_stopA (by omega) (by omega)).symm⟩ (Pr.le_refl _))⟩, ke rfl, ke rfl, ke rfl, trivial⟩
 refine Tr.ex 10 rfl (fun i2 => Tr.fact 10 rfl fun hci2 => ?_)
 obtain ⟨hci2a, hci2b, hci2c⟩ := hci2
 refine wk4 0 1 10 11 rfl (Tr.cutk [0, 1, 10] [(11, ex fun y : Int => fact ((a ≤ y ∧ y ≤ j) ∧ True ∧ y.toNat = Go.Sort.scanDown (pD c st.toArray a) st.toArray (i2).toNat (j).toNat) (int y))] (True) ?_ (fun h11 => ?_))
 refine Tr.block (Tr.loopw [(0, _), (1, _), (10, _)] (kk3 rfl) (fun y : Int => [(11, int y)]) (fun y : Int => (a ≤ y ∧ y ≤ j) ∧ Go.Sort.scanDown (pD c st.toArray a) st.toArray (i2).toNat (y).toNat = Go.Sort.scanDown (pD c st.toArray a) st.toArray (i2).toNat (j).toNat) (fun y : Int => (y - a).toNat) j (⟨⟨by omega, by omega⟩, rfl⟩) ⟨ke rfl, trivial⟩ ?_)
 rintro y ⟨⟨hscBa, hscBb⟩, hscBc⟩
 refine Tr.seq (Tr.seq (Tr.reg1 mixed (by kernel_rfl) (cm rfl (cm rfl (co rfl (ki rfl rfl rfl rfl) (cm rfl ?_))))))
 refine Ch.cs 118 rfl ?_ ?_ <;> intro h12 q12
 refine cym h12 rfl (cym h12 rfl (cy h12 rfl (okp_indexSl rfl Tryz.underlying53 sz9 (vl rfl) (vl rfl) (by omega) (by omega)) (cy h12 rfl (ok_rd 0 rfl (rd_load1 rfl one9 (vl rfl) (cells1_atG (g := (fun t : List UInt8 => str t)) (by omega)))) (cym h12 rfl (cym h12 rfl (cy h12 rfl (okp_indexSl rfl Tryz.underlying53 sz9 (vl rfl) (vl rfl) (by omega) (by omega)) (cy h12 rfl (ok_rd 0 rfl (rd_load1 rfl one9 (vl rfl) (cells1_atG (g := (fun t : List UInt8 => str t)) (by omega)))) (cy h12 rfl (ok_call rfl (w_lessCOs hc) ⟨ke rfl, ke rfl, trivial⟩) (cy h12 rfl (ok_not rfl (vl rfl)) (co rfl (kpt rfl rfl h12 rfl) (Ch.nil (Fin.go (wk5 0 1 10 11 129 rfl ?_)))))))))))))
 refine Tr.cn rfl ?_ ?_ <;> intro h13 q13
 have := h13
 refine Tr.skip (Fin.go (Tr.block (Tr.reg0 (cm rfl (csu rfl rfl rfl rfl (by omega) (cm rfl (Ch.nil (Fin.block ?_))))))))
 exact Fin.fam_same (y - 1) ⟨⟨⟨by omega, by omega⟩, by rw [sd_go (by omega) (by omega) (by omega) (pD_t (by omega) (by omega) (Int.not_lt.2 (by assumption)))]; exact hscBc⟩, by omega⟩ (kk4 rfl)
 have := h13
 refine Tr.exit (Fin.then_exit (Fin.then_exit (Fin.block_here ?_)))
 exact Fin.fam_same () trivial ⟨⟨_, rfl, ex_in _ (fact_in ⟨⟨by omega, by omega⟩, trivial, by rw [← hscBc]; exact (sd_stopB (by omega) (pD_f (by omega) (by omega) (by assumption))).symm⟩ (Pr.le_refl _))⟩, ke rfl, ke rfl, ke rfl, trivial⟩
 iterate 10 refine cnt h12 rfl ?_
 refine co rfl (kpf rfl rfl h12 rfl) (Ch.nil (Fin.go (wk5 0 1 10 11 129 rfl (Tr.cond rfl (fun h => nomatch h) (fun _ => ?_)))))
 refine Tr.exit (Fin.then_exit (Fin.then_exit (Fin.block_here ?_)))
 exact Fin.fam_same () trivial ⟨⟨_, rfl, ex_in _ (fact_in ⟨⟨by omega, by omega⟩, trivial, by rw [← hscBc]; exact (sd_stopA (by omega) (by omega)).symm⟩ (Pr.le_refl _))⟩, ke rfl, ke rfl, ke rfl, trivial⟩
 refine Tr.ex 11 rfl (fun j2 => Tr.fact 11 rfl fun hcj2 => ?_)
 obtain ⟨hcj2a, hcj2b, hcj2c⟩ := hcj2
 refine Tr.seq (Tr.seq (Tr.reg0 (cm rfl (cm rfl (co rfl (ki rfl rfl rfl rfl) (Ch.nil (Fin.go ?_)))))))
 refine Tr.cn rfl ?_ ?_ <;> intro h14 q14
 refine Tr.exit (Fin.then_exit (Fin.block_on rfl (Fin.then_exit (Fin.block_here (Fin.go (Tr.seq (Tr.regX mixed [none, none, none, none, none, none, none, some (0, 0, false, 0), none, none, none, some (0, 0, false, 0), none, some (0, 0, true, 0), none, some (0, 0, true, 0)] (by kernel_rfl) ?_)))))))
 iterate 6 refine xm rfl ?_
 refine xo rfl (fun _ => okp_indexSl rfl Tryz.underlying53 sz9 (vl rfl) (vl rfl) (by omega) (by omega)) (xrd 0 rfl rfl (rd_load1 rfl one9 (vl rfl) (cells1_atG (g := (fun t : List UInt8 => str t)) (by omega))) (xm rfl (xm rfl (xo rfl (fun _ => okp_indexSl rfl Tryz.underlying53 sz9 (vl rfl) (vl rfl) (by omega) (by omega)) (xrd 0 rfl rfl (rd_load1 rfl one9 (vl rfl) (cells1_atG (g := (fun t : List UInt8 => str t)) (by omega))) (xo rfl (fun _ => okp_indexSl rfl Tryz.underlying53 sz9 (vl rfl) (vl rfl) (by omega) (by omega)) ?_))))))
 refine Cx.ef0 0 rfl rfl (ef_store rfl rfl (vl rfl) (VL.le (vl rfl) (one_cellsP _)) sz9 rfl (by rw [cells_len (sz := 1) (fun _ => rfl)]; omega) (cells_setG (f := (fun t : List UInt8 => [str t])) (fun _ => rfl) (by omega))) ?_
 refine xo rfl (fun _ => okp_indexSl rfl Tryz.underlying53 sz9 (vl rfl) (vl rfl) (by omega) (by omega)) ?_
 refine Cx.ef0 0 rfl rfl (ef_store rfl rfl (vl rfl) (VL.le (vl rfl) (one_cellsP _)) sz9 rfl (by rw [cells_len (sz := 1) (fun _ => rfl)]; simp only [List.length_set]; omega) (cells_setG (f := (fun t : List UInt8 => [str t])) (fun _ => rfl) (by simp only [List.length_set]; omega))) ?_
 refine Cx.nil ⟨rfl, ?_⟩
 refine FinX.done (AllC.cons (AllC.cons (AllC.map _))) (Fin.go (wk1 11 rfl (Tr.seq (Tr.reg0 (cm rfl (cm rfl (cm rfl (Ch.nil (Fin.go (Tr.ret ?_))))))))))
 refine Fin.closeL (PartL c a b pv l) 0 rfl (⟨by simp only [List.length_set]; omega, (pa_start h0 hab hal hpv (hso.symm.trans (part_stop hci2c hcj2c (by omega) (by omega))) (by omega) (by omega)).2⟩) ?_
 refine Fin.retY2 [] rfl (RVal.tmp rfl (Pr.le_refl _)) (RVal.tmp rfl (Pr.le_refl _)) ?_
 · exact ex_in false (fact_in trivial (Pr.le_of_eq (by rw [(pa_start h0 hab hal hpv (hso.symm.trans (part_stop hci2c hcj2c (by omega) (by omega))) (by omega) (by omega)).1, Int.toNat_of_nonneg (by omega)])))
 refine Tr.skip (Fin.go (Tr.seq (Tr.regX mixed [none, none, none, none, none, none, none, some (0, 0, false, 0), none, none, none, some (0, 0, false, 0), none, some (0, 0, true, 0), none, some (0, 0, true, 0)] (by kernel_rfl) ?_)))
 iterate 6 refine xm rfl ?_
 refine xo rfl (fun _ => okp_indexSl rfl Tryz.underlying53 sz9 (vl rfl) (vl rfl) (by omega) (by omega)) (xrd 0 rfl rfl (rd_load1 rfl one9 (vl rfl) (cells1_atG (g := (fun t : List UInt8 => str t)) (by omega))) (xm rfl (xm rfl (xo rfl (fun _ => okp_indexSl rfl Tryz.underlying53 sz9 (vl rfl) (vl rfl) (by omega) (by omega)) (xrd 0 rfl rfl (rd_load1 rfl one9 (vl rfl) (cells1_atG (g := (fun t : List UInt8 => str t)) (by omega))) (xo rfl (fun _ => okp_indexSl rfl Tryz.underlying53 sz9 (vl rfl) (vl rfl) (by omega) (by omega)) ?_))))))
 refine Cx.ef0 0 rfl rfl (ef_store rfl rfl (vl rfl) (VL.le (vl rfl) (one_cellsP _)) sz9 rfl (by rw [cells_len (sz := 1) (fun _ => rfl)]; omega) (cells_setG (f := (fun t : List UInt8 => [str t])) (fun _ => rfl) (by omega))) ?_
 refine xo rfl (fun _ => okp_indexSl rfl Tryz.underlying53 sz9 (vl rfl) (vl rfl) (by omega) (by omega)) ?_
 refine Cx.ef0 0 rfl rfl (ef_store rfl rfl (vl rfl) (VL.le (vl rfl) (one_cellsP _)) sz9 rfl (by rw [cells_len (sz := 1) (fun _ => rfl)]; simp only [List.length_set]; omega) (cells_setG (f := (fun t : List UInt8 => [str t])) (fun _ => rfl) (by simp only [List.length_set]; omega))) ?_
 refine Cx.nil ⟨rfl, ?_⟩
 refine FinX.done (AllC.cons (AllC.cons (AllC.map _))) (Fin.go (wk4 0 1 10 11 rfl (Tr.seq (Tr.reg0 (cm rfl (cad rfl rfl rfl rfl (by omega) (cm rfl (Ch.nil (Fin.go (Tr.reg0 (cm rfl (csu rfl rfl rfl rfl (by omega) (cm rfl ?_)))))))))))))
 refine Ch.nil (Fin.block ?_)
 exact Fin.famD3V0 (i2 + 1) (j2 - 1) (_)  (⟨⟨⟨⟨by omega, by omega⟩, by omega, by omega⟩, by simp only [List.length_set]; exact hsl, (part_go hci2c hcj2c (by omega) (by omega) (by omega) (by omega)).trans hso⟩, by omega⟩) ⟨ke rfl, ke rfl, ke rfl, ke rfl, trivial⟩ (fun _ _ h => h)
set_option maxRecDepth 20000 in
theorem w_sins5Os {l : List (List UInt8)} {c : List UInt8 × List UInt8 → Int} {b0 cap len : Nat} {sp : List Value} {a b : Int} (hc : ∀ x y, c (x, y) = Lib.compareBytes x y) (hln : l.length = len) (hll : len ≤ 1000000) (hw : Go.Sort.SWO (ltc c)) (h0 : 0 ≤ a) (hab : a < b) (hb : b ≤ len) (hb5 : b < 50) : FunM Tryz.prog 247 [is (.slice (some ⟨b0, 0, none⟩) len cap), int a, int b] (ex fun z : Bool => fact (z = true → Go.Sort.SortedIn (ltc c) a.toNat b.toNat l.toArray) (bool z)) (cellsRes true b0 9 ((l.map (fun t : List UInt8 => [str t])).flatten ++ sp.map is)) (fun _ => cellsRes true b0 9 ((l.map (fun t : List UInt8 => [str t])).flatten ++ sp.map is)) := by
 refine FunM.of Tryz.func247 rfl rfl (by exact Nat.le_of_ble_eq_true rfl) fun M0 w0 S rs M1 w1 => ?_
 refine Tr.seq (Tr.reg0 (cm rfl (Ch.nil (Fin.go (Tr.seq (Tr.reg0 (cm rfl (cad rfl rfl rfl rfl (by omega) (cm rfl (Ch.nil (Fin.go (Tr.seq (Tr.seq (Tr.reg0 ?_))))))))))))))
 refine cm rfl (Ch.nil (Fin.go (Tr.block (Tr.loopD2V0 [(0, _), (1, _), (2, _)] ⟨ke rfl, ke rfl, ke rfl, trivial⟩ (fun (i : Int) (j : Int) => [(7, int i), (8, int j)]) (fun (i : Int) (j : Int) => Hp M0 w0 S (cellsRes true b0 9 ((l.map (fun t : List UInt8 => [str t])).flatten ++ sp.map is) :: extRes M1 w1 :: rs)) (fun (i : Int) (j : Int) => (j = 0 ∧ a < i ∧ i ≤ b) ∧ Adj c a i l) (fun (i : Int) (j : Int) => (5 - j).toNat) (a + 1) (0)  (⟨⟨rfl, by omega, by omega⟩, Adj.start a l h0⟩) ⟨ke rfl, ke rfl, trivial⟩ (fun _ _ h => h) ?_))))
 rintro i j  ⟨⟨hj0, hi1, hi2⟩, hadj⟩
 refine Tr.seq (Tr.seq (Tr.reg0 (cm rfl (co rfl (ki rfl rfl rfl rfl) (Ch.nil (Fin.go ?_))))))
 refine Tr.cn rfl ?_ ?_ <;> intro h1 q1
 skip
 refine Tr.skip (Fin.go (Tr.seq (Tr.block (Tr.seq (Tr.block (Tr.loopw [(0, _), (1, _), (2, _), (8, _)] (kk4 rfl) (fun i2 : Int => [(7, int i2)]) (fun i2 : Int => (a < i2 ∧ i2 ≤ b) ∧ Adj c a i2 l) (fun i2 : Int => (b - i2).toNat) i (⟨⟨hi1, hi2⟩, hadj⟩) ⟨ke rfl, trivial⟩ ?_))))))
 rintro i2 ⟨⟨hi3, hi4⟩, hadj2⟩
 refine Tr.seq (Tr.seq (Tr.reg1 mixed (by kernel_rfl) (cm rfl (cm rfl (co rfl (ki rfl rfl rfl rfl) (cm rfl ?_))))))
 refine Ch.cs 20 rfl ?_ ?_ <;> intro h2 q2
 refine cym h2 rfl (cym h2 rfl (cy h2 rfl (okp_indexSl rfl Tryz.underlying53 sz9 (vl rfl) (vl rfl) (by omega) (by omega)) (cy h2 rfl (ok_rd 0 rfl (rd_load1 rfl one9 (vl rfl) (cells1_atG (g := (fun t : List UInt8 => str t)) (by omega)))) (cym h2 rfl (cym h2 rfl ?_)))))
 refine cy h2 rfl (ok_sub rfl (vl rfl) (vl rfl) ?hin) ?_; case hin => unfold InI; omega
 refine cy h2 rfl (okp_indexSl rfl Tryz.underlying53 sz9 (vl rfl) (vl rfl) (by omega) (by omega)) (cy h2 rfl (ok_rd 0 rfl (rd_load1 rfl one9 (vl rfl) (cells1_atG (g := (fun t : List UInt8 => str t)) (by omega)))) (cy h2 rfl (ok_call rfl (w_lessCOs hc) ⟨ke rfl, ke rfl, trivial⟩) (cy h2 rfl (ok_not rfl (vl rfl)) (co rfl (kpt rfl rfl h2 rfl) (Ch.nil (Fin.go (wk6 0 1 2 7 8 32 rfl ?_)))))))
 refine Tr.cn rfl ?_ ?_ <;> intro h3 q3
 have := h3
 refine Tr.skip (Fin.go (Tr.block (Tr.reg0 (cm rfl (cad rfl rfl rfl rfl (by omega) (cm rfl (Ch.nil (Fin.block (Fin.fam_same (i2 + 1) ⟨⟨⟨by omega, by omega⟩, hadj2.go h0 (by omega) rfl (by omega) (by omega) (by assumption)⟩, by omega⟩ (kk5 rfl))))))))))
 have := h3
 refine Tr.exit (Fin.then_exit (Fin.then_exit (Fin.block_here (Fin.go (Tr.seq (Tr.seq (Tr.reg0 (cm rfl (cm rfl (co rfl (ki rfl rfl rfl rfl) (Ch.nil (Fin.go ?_))))))))))))
 refine Tr.cn rfl ?_ ?_ <;> intro h4 q4
 refine Tr.seq (Tr.reg0 (cm rfl (Ch.nil (Fin.go (Tr.ret (Fin.then_ret (Fin.block_ret (Fin.then_ret (Fin.then_ret (Fin.block_ret (Fin.then_ret (Fin.retM1 rfl rfl ?_ (fun _ _ _ _ => rfl)))))))))))))
 · exact ex_in true (fact_in (fun _ => by rw [show b = i2 by omega]; exact hadj2.sorted hw) (Pr.le_refl _))
 refine Tr.skip (Fin.go (Tr.seq (Tr.seq (Tr.reg0 (cm rfl (cm rfl (csu rfl rfl rfl rfl (by omega) (co rfl (ki rfl rfl rfl rfl) (Ch.nil (Fin.go ?_))))))))))
 refine Tr.cn rfl ?_ ?_ <;> intro h5 q5
 refine Tr.seq (Tr.reg0 (cm rfl (Ch.nil (Fin.go (wk1 6 rfl (Tr.ret (Fin.then_ret (Fin.block_ret (Fin.then_ret (Fin.then_ret (Fin.block_ret (Fin.then_ret (Fin.retM1 rfl rfl ?_ (fun _ _ _ _ => rfl))))))))))))))
 · exact ex_in false (fact_in (fun h => nomatch h) (Pr.le_refl _))
 exfalso; omega
 iterate 11 refine cnt h2 rfl ?_
 refine co rfl (kpf rfl rfl h2 rfl) (Ch.nil (Fin.go (wk6 0 1 2 7 8 32 rfl (Tr.cond rfl (fun h => nomatch h) (fun _ => ?_)))))
 refine Tr.exit (Fin.then_exit (Fin.then_exit (Fin.block_here (Fin.go (Tr.seq (Tr.seq (Tr.reg0 (cm rfl (cm rfl (co rfl (ki rfl rfl rfl rfl) (Ch.nil (Fin.go ?_))))))))))))
 refine Tr.cn rfl ?_ ?_ <;> intro h6 q6
 refine Tr.seq (Tr.reg0 (cm rfl (Ch.nil (Fin.go (Tr.ret (Fin.then_ret (Fin.block_ret (Fin.then_ret (Fin.then_ret (Fin.block_ret (Fin.then_ret (Fin.retM1 rfl rfl ?_ (fun _ _ _ _ => rfl)))))))))))))
 · exact ex_in true (fact_in (fun _ => by rw [show b = i2 by omega]; exact hadj2.sorted hw) (Pr.le_refl _))
 refine Tr.skip (Fin.go (Tr.seq (Tr.seq (Tr.reg0 (cm rfl (cm rfl (csu rfl rfl rfl rfl (by omega) (co rfl (ki rfl rfl rfl rfl) (Ch.nil (Fin.go ?_))))))))))
 refine Tr.cn rfl ?_ ?_ <;> intro h7 q7
 refine Tr.seq (Tr.reg0 (cm rfl (Ch.nil (Fin.go (wk1 6 rfl (Tr.ret (Fin.then_ret (Fin.block_ret (Fin.then_ret (Fin.then_ret (Fin.block_ret (Fin.then_ret (Fin.retM1 rfl rfl ?_ (fun _ _ _ _ => rfl))))))))))))))
 · exact ex_in false (fact_in (fun h => nomatch h) (Pr.le_refl _))
 exfalso; omega
 have hj5 : ¬ j < 5 := of_decide_eq_false h1
 exfalso; omega
set_option maxRecDepth 20000 in
theorem w_sord2Os {sb : Nat} {l : List (List UInt8)} {c : List UInt8 × List UInt8 → Int} {b0 cap len : Nat} {sp : List Value} {a b : Int} (hc : ∀ x y, c (x, y) = Lib.compareBytes x y) (hln : l.length = len) (hll : len ≤ 1000000) (h0 : 0 ≤ a) (ha : a < len) (h1 : 0 ≤ b) (hb : b < len) : FunR Tryz.prog 264 [is (.slice (some ⟨b0, 0, none⟩) len cap), int a, int b, is (.pointer (some ⟨sb, 0, none⟩))] (ex fun z : Int × Int => fact ((z.1 = a ∧ z.2 = b) ∨ (z.1 = b ∧ z.2 = a)) (tup [int z.1, int z.2])) (cellsRes true sb 3 [anyK .i64]) (cellsRes true sb 3 [anyK .i64]) (cellsRes true b0 9 ((l.map (fun t : List UInt8 => [str t])).flatten ++ sp.map is)) := by
 refine FunR.of Tryz.func264 rfl rfl (by exact Nat.le_of_ble_eq_true rfl) fun M0 w0 S rs M1 w1 => (Tr.seq (Tr.reg0 (cm rfl (cm rfl (Ch.nil (Fin.go (Tr.seq (Tr.seq (Tr.reg1 mixed (by kernel_rfl) (cm rfl (cm rfl (co rfl (okp_indexSl rfl Tryz.underlying53 sz9 (vl rfl) (vl rfl) (by omega) (by omega)) (co rfl (ok_rd 2 rfl (rd_load1 rfl one9 (vl rfl) (cells1_atG (g := (fun t : List UInt8 => str t)) (by omega)))) ?_)))))))))))))
 refine cm rfl (cm rfl (co rfl (okp_indexSl rfl Tryz.underlying53 sz9 (vl rfl) (vl rfl) (by omega) (by omega)) (co rfl (ok_rd 2 rfl (rd_load1 rfl one9 (vl rfl) (cells1_atG (g := (fun t : List UInt8 => str t)) (by omega)))) (co rfl (ok_call rfl (w_lessCOs hc) ⟨ke rfl, ke rfl, trivial⟩) (Ch.nil (Fin.go ?_))))))
 refine Tr.cn rfl ?_ ?_ <;> intro h1 q1
 refine Tr.seq (Tr.regT (tm rfl (tp rfl (okp_nilCheck rfl (vl rfl)) (TO.rd 0 rfl rfl rfl (by decide) (rd_load1 rfl one3 (vl rfl) rfl) (tp rfl (ok_addK rfl (vl rfl) (VL.le (vl rfl) (is_anyK _ _))) (tp rfl (okp_nilCheck rfl (vl rfl)) (TO.store_all 0 rfl rfl rfl (vl rfl) (VL.le (vl rfl) (one_cellsP _)) rfl sz3 rfl rfl (TO.nil (Fin.go (wk2 1 2 rfl (Tr.seq (Tr.reg0 ?_))))))))))))
 iterate 4 refine cm rfl ?_
 refine Ch.nil (Fin.go (Tr.ret (Fin.then_ret (Fin.retY2 [] rfl (RVal.tmp rfl (Pr.le_refl _)) (RVal.tmp rfl (Pr.le_refl _)) ?_))))
 · exact ex_in (b, a) (fact_in (.inr ⟨rfl, rfl⟩) (Pr.le_refl _))
 refine Tr.skip (Fin.go (Tr.seq (Tr.reg0 ?_)))
 iterate 4 refine cm rfl ?_
 refine Ch.nil (Fin.go (wk2 8 9 rfl (Tr.ret (Fin.retY2 [] rfl (RVal.tmp rfl (Pr.le_refl _)) (RVal.tmp rfl (Pr.le_refl _)) ?_))))
 · exact ex_in (a, b) (fact_in (.inl ⟨rfl, rfl⟩) (Pr.le_refl _))
set_option maxRecDepth 20000 in
theorem w_smedOs {sb : Nat} {l : List (List UInt8)} {c : List UInt8 × List UInt8 → Int} {b0 cap len : Nat} {sp : List Value} {a b d : Int} (hc : ∀ x y, c (x, y) = Lib.compareBytes x y) (hln : l.length = len) (hll : len ≤ 1000000) (h0 : 0 ≤ a) (ha : a < len) (h1 : 0 ≤ b) (hb : b < len) (h2 : 0 ≤ d) (hd : d < len) : FunR Tryz.prog 262 [is (.slice (some ⟨b0, 0, none⟩) len cap), int a, int b, int d, is (.pointer (some ⟨sb, 0, none⟩))] (ex fun z : Int => fact (z = a ∨ z = b ∨ z = d) (int z)) (cellsRes true sb 3 [anyK .i64]) (cellsRes true sb 3 [anyK .i64]) (cellsRes true b0 9 ((l.map (fun t : List UInt8 => [str t])).flatten ++ sp.map is)) := by
 refine FunR.of Tryz.func262 rfl rfl (by exact Nat.le_of_ble_eq_true rfl) fun M0 w0 S rs M1 w1 => (Tr.seq (Tr.reg0 (cm rfl (Ch.nil (Fin.go (Tr.seq (Tr.regT ?_)))))))
 iterate 4 refine tm rfl ?_
 refine TO.callR 0 2 rfl rfl (by decide) rfl rfl (by decide) rfl (w_sord2Os hc (by omega) (by omega) (by omega) (by omega) (by omega) (by omega)) ⟨ke rfl, ke rfl, ke rfl, ke rfl, trivial⟩ ?_
 refine TO.ex 16 rfl (fun z1 => TO.fact 16 rfl fun hz1 => ?_)
 refine tm rfl (tp rfl (ok_extract rfl (vl rfl) rfl) (tp rfl (ok_extract rfl (vl rfl) rfl) (tm rfl (tm rfl (TO.nil (Fin.go (Tr.seq (Tr.regT ?_))))))))
 iterate 4 refine tm rfl ?_
 refine TO.callR 0 2 rfl rfl (by decide) rfl rfl (by decide) rfl (w_sord2Os hc (by omega) (by omega) (by omega) (by omega) (by omega) (by omega)) ⟨ke rfl, ke rfl, ke rfl, ke rfl, trivial⟩ ?_
 refine TO.ex 24 rfl (fun z2 => TO.fact 24 rfl fun hz2 => ?_)
 refine tm rfl (tp rfl (ok_extract rfl (vl rfl) rfl) (tp rfl (ok_extract rfl (vl rfl) rfl) (tm rfl (tm rfl (TO.nil (Fin.go (wk4 0 1 2 4 rfl (Tr.seq (Tr.regT ?_)))))))))
 iterate 4 refine tm rfl ?_
 refine TO.callR 0 2 rfl rfl (by decide) rfl rfl (by decide) rfl (w_sord2Os hc (by omega) (by omega) (by omega) (by omega) (by omega) (by omega)) ⟨ke rfl, ke rfl, ke rfl, ke rfl, trivial⟩ ?_
 refine TO.ex 32 rfl (fun z3 => TO.fact 32 rfl fun hz3 => ?_)
 refine tm rfl (tp rfl (ok_extract rfl (vl rfl) rfl) (tp rfl (ok_extract rfl (vl rfl) rfl) (tm rfl (tm rfl (TO.nil (Fin.go (wk1 2 rfl (Tr.seq (Tr.reg0 (cm rfl (cm rfl (Ch.nil (Fin.go (Tr.ret ?_))))))))))))))
 refine Fin.retM1 rfl rfl ?_ (fun _ _ _ _ => rfl)
 · exact ex_in _ (fact_in (by omega) (Pr.le_refl _))
set_option maxRecDepth 20000 in
theorem w_spivOs {l : List (List UInt8)} {c : List UInt8 × List UInt8 → Int} {b0 cap len : Nat} {sp : List Value} {a b : Int} (hc : ∀ x y, c (x, y) = Lib.compareBytes x y) (hln : l.length = len) (hll : len ≤ 1000000) (h0 : 0 ≤ a) (hab : a < b) (hb : b ≤ len) (hb5 : b < 50) : FunM Tryz.prog 245 [is (.slice (some ⟨b0, 0, none⟩) len cap), int a, int b] (ex fun z : Int × Int => fact (a ≤ z.1 ∧ z.1 < b) (tup [int z.1, int z.2])) (cellsRes true b0 9 ((l.map (fun t : List UInt8 => [str t])).flatten ++ sp.map is)) (fun _ => cellsRes true b0 9 ((l.map (fun t : List UInt8 => [str t])).flatten ++ sp.map is)) := by
 refine FunM.of Tryz.func245 rfl rfl (by exact Nat.le_of_ble_eq_true rfl) fun M0 w0 S rs M1 w1 => ?_
 have hq := quart (n := b - a) (by omega) (by omega)
 obtain ⟨hq1, hq2, hq3⟩ := hq
 refine Tr.seq (Tr.reg0 (cm rfl (cm rfl (Ch.nil (Fin.go (Tr.seq (Tr.reg0 (cm rfl (cm rfl (csu rfl rfl rfl rfl (by omega) (cm rfl (Ch.nil (Fin.go (Tr.seq ?_))))))))))))))
 refine Tr.regT ?_
 refine TO.alloc rfl rfl (by decide) rfl z3 zo3 (fun b1 => ?_)
 refine TO.nil (Fin.go (Tr.seq (Tr.reg0 (cm rfl (cm rfl (co rfl (ok_quo rfl (vl rfl) (vl rfl) (by omega)) ?_))))))
 refine co rfl (ok_mul rfl (vl rfl) (vl rfl) ?hin) ?_; case hin => unfold InI; omega
 refine cad rfl rfl rfl rfl (by omega) (cm rfl (Ch.nil (Fin.go (wk5 0 1 8 9 10 rfl (Tr.seq (Tr.reg0 (cm rfl (cm rfl (co rfl (ok_quo rfl (vl rfl) (vl rfl) (by omega)) ?_)))))))))
 refine co rfl (ok_mul rfl (vl rfl) (vl rfl) ?hin) ?_; case hin => unfold InI; omega
 refine cad rfl rfl rfl rfl (by omega) (cm rfl (Ch.nil (Fin.go (Tr.seq (Tr.reg0 (cm rfl (cm rfl (co rfl (ok_quo rfl (vl rfl) (vl rfl) (by omega)) ?_))))))))
 refine co rfl (ok_mul rfl (vl rfl) (vl rfl) ?hin) ?_; case hin => unfold InI; omega
 refine cad rfl rfl rfl rfl (by omega) (cm rfl (Ch.nil (Fin.go (wk6 0 8 9 10 11 12 rfl (Tr.seq (Tr.seq (Tr.reg0 (cm rfl (co rfl (ki rfl rfl rfl rfl) (Ch.nil (Fin.go ?_)))))))))))
 refine Tr.cn rfl ?_ ?_ <;> intro h1 q1
 refine Tr.seq (Tr.seq (Tr.reg0 (cm rfl (co rfl (ki rfl rfl rfl rfl) (Ch.nil (Fin.go ?_))))))
 refine Tr.cn rfl ?_ ?_ <;> intro h2 q2
 exfalso; omega
 refine Tr.skip (Fin.go (Tr.leC 0 [anyK .i64] rfl ⟨is_anyK _ _, trivial⟩ (Tr.regT ?_)))
 iterate 4 refine tm rfl ?_
 refine TO.callR 0 1 rfl rfl (by decide) rfl rfl (by decide) rfl (w_smedOs hc (by omega) (by omega) (by omega) (by omega) (by omega) (by omega) (by omega) (by omega)) ⟨ke rfl, ke rfl, ke rfl, ke rfl, ke rfl, trivial⟩ ?_
 refine TO.ex 48 rfl (fun z1 => TO.fact 48 rfl fun hz1 => ?_)
 refine tm rfl (TO.nil (Fin.go (wk2 9 11 rfl (Tr.seq (Tr.reg0 (co rfl (ok_rd 0 rfl (rd_load1 rfl one3 (vl rfl) rfl)) (Ch.nil (Fin.go (Tr.drop 0 (Tr.block (Tr.seq (Tr.ex 49 rfl fun sw => (Tr.reg0 ?_)))))))))))))
 refine co rfl (ki rfl rfl rfl rfl) (cm rfl (Ch.nil (Fin.go ?_)))
 refine Tr.cn rfl ?_ ?_ <;> intro h3 q3
 refine Tr.seq (Tr.reg0 (cm rfl (cm rfl (cm rfl (Ch.nil (Fin.go (Tr.ret (Fin.block_ret (Fin.retY2 [] rfl (RVal.tmp rfl (Pr.le_refl _)) (RVal.tmp rfl (Pr.le_refl _)) ?_)))))))))
 · exact ex_in (_, _) (fact_in ⟨by omega, by omega⟩ (Pr.le_refl _))
 refine Tr.seq (Tr.reg0 (co rfl (ki rfl rfl rfl rfl) (cm rfl (Ch.nil (Fin.go ?_)))))
 refine Tr.cn rfl ?_ ?_ <;> intro h4 q4
 refine Tr.seq (Tr.reg0 (cm rfl (cm rfl (cm rfl (Ch.nil (Fin.go (Tr.ret (Fin.block_ret (Fin.retY2 [] rfl (RVal.tmp rfl (Pr.le_refl _)) (RVal.tmp rfl (Pr.le_refl _)) ?_)))))))))
 · exact ex_in (_, _) (fact_in ⟨by omega, by omega⟩ (Pr.le_refl _))
 refine Tr.seq (Tr.reg0 (cm rfl (cm rfl (cm rfl (Ch.nil (Fin.go (Tr.ret (Fin.block_ret (Fin.retY2 [] rfl (RVal.tmp rfl (Pr.le_refl _)) (RVal.tmp rfl (Pr.le_refl _)) ?_)))))))))
 · exact ex_in (_, _) (fact_in ⟨by omega, by omega⟩ (Pr.le_refl _))
 refine Tr.skip (Fin.go (Tr.seq (Tr.leC 0 [anyK .i64] rfl ⟨is_anyK _ _, trivial⟩ (Tr.reg0 (co rfl (ok_rd 0 rfl (rd_load1 rfl one3 (vl rfl) rfl)) (Ch.nil (Fin.go (Tr.drop 0 (Tr.block (Tr.seq (Tr.ex 49 rfl fun sw => (Tr.reg0 (co rfl (ki rfl rfl rfl rfl) ?_)))))))))))))
 refine cm rfl (Ch.nil (Fin.go ?_))
 refine Tr.cn rfl ?_ ?_ <;> intro h5 q5
 refine Tr.seq (Tr.reg0 (cm rfl (cm rfl (cm rfl (Ch.nil (Fin.go (wk2 6 7 rfl (Tr.ret (Fin.block_ret (Fin.retY2 [] rfl (RVal.tmp rfl (Pr.le_refl _)) (RVal.tmp rfl (Pr.le_refl _)) ?_))))))))))
 · exact ex_in (_, _) (fact_in ⟨by omega, by omega⟩ (Pr.le_refl _))
 refine Tr.seq (Tr.reg0 (co rfl (ki rfl rfl rfl rfl) (cm rfl (Ch.nil (Fin.go ?_)))))
 refine Tr.cn rfl ?_ ?_ <;> intro h6 q6
 refine Tr.seq (Tr.reg0 (cm rfl (cm rfl (cm rfl (Ch.nil (Fin.go (wk2 6 7 rfl (Tr.ret (Fin.block_ret (Fin.retY2 [] rfl (RVal.tmp rfl (Pr.le_refl _)) (RVal.tmp rfl (Pr.le_refl _)) ?_))))))))))
 · exact ex_in (_, _) (fact_in ⟨by omega, by omega⟩ (Pr.le_refl _))
 refine Tr.seq (Tr.reg0 (cm rfl (cm rfl (cm rfl (Ch.nil (Fin.go (wk2 6 7 rfl (Tr.ret (Fin.block_ret (Fin.retY2 [] rfl (RVal.tmp rfl (Pr.le_refl _)) (RVal.tmp rfl (Pr.le_refl _)) ?_))))))))))
 · exact ex_in (_, _) (fact_in ⟨by omega, by omega⟩ (Pr.le_refl _))
set_option maxRecDepth 20000 in
theorem w_sbrkOs {l : List (List UInt8)} {c : List UInt8 × List UInt8 → Int} {b0 cap len : Nat} {sp : List Value} {a b : Int} (hc : ∀ x y, c (x, y) = Lib.compareBytes x y) (hln : l.length = len) (hll : len ≤ 1000000) (h0 : 0 ≤ a) (hab : a ≤ b) (hb : b ≤ len) (hb5 : b < 50) : FunM Tryz.prog 244 [is (.slice (some ⟨b0, 0, none⟩) len cap), int a, int b] (unit_) (cellsRes true b0 9 ((l.map (fun t : List UInt8 => [str t])).flatten ++ sp.map is)) (fun _ => relRes b0 9 (fun t : List UInt8 => [str t]) (PermL a b l) (sp.map is)) := by
 refine FunM.of Tryz.func244 rfl rfl (by exact Nat.le_of_ble_eq_true rfl) fun M0 w0 S rs M1 w1 => ?_
 have hq := quart (n := b - a) (by omega) (by omega)
 obtain ⟨hq1, hq2, hq3⟩ := hq
 refine Tr.seq (Tr.reg0 (cm rfl (cm rfl (csu rfl rfl rfl rfl (by omega) (cm rfl (Ch.nil (Fin.go (Tr.seq (Tr.reg0 (cm rfl (co rfl (ki rfl rfl rfl rfl) (Ch.nil (Fin.go ?_)))))))))))))
 refine Tr.cn rfl ?_ ?_ <;> intro h1 q1
 refine Tr.seq (Tr.regT (tm rfl (tp rfl (ok_conv rfl Tryz.underlying3 Tryz.underlying211 (vl rfl)) ?_)))
 refine TO.alloc rfl rfl (by decide) rfl z211 zo211 (fun b1 => ?_)
 refine TO.store_all 0 rfl rfl rfl (vl rfl) (VL.le (vl rfl) (one_cellsP _)) rfl sz211 rfl rfl (TO.nil (Fin.go (Tr.seq (Tr.leC 0 [anyK .u64] rfl ⟨is_anyK _ _, trivial⟩ (Tr.regT (tm rfl (tp rfl (ok_call rfl (w_npow (by omega) (by omega)) ⟨ke rfl, trivial⟩) ?_)))))))
 refine TO.ex 19 rfl (fun md => TO.fact 19 rfl fun hmd => ?_)
 obtain ⟨hmd1, hmd2⟩ := hmd
 have hwm : IntKind.u64.wrap (md - 1) = md - 1 := IntWalk.u64_in _ ⟨by omega, by omega⟩
 refine tm rfl (TO.nil (Fin.go (Tr.seq (Tr.reg0 (cm rfl (cm rfl (co rfl (ok_quo rfl (vl rfl) (vl rfl) (by omega)) ?_)))))))
 refine co rfl (ok_mul rfl (vl rfl) (vl rfl) ?hin) ?_; case hin => unfold InI; omega
 refine cad rfl rfl rfl rfl (by omega) (csu rfl rfl rfl rfl (by omega) (cm rfl (Ch.nil (Fin.go (wk6 0 1 6 7 8 9 rfl (Tr.block (Tr.loopD2V0 [(0, _), (1, _), (6, _), (7, _), (8, _)] ⟨ke rfl, ke rfl, ke rfl, ke rfl, ke rfl, trivial⟩ (fun (i : Int) (st : List (List UInt8)) => [(9, int i)]) (fun (i : Int) (st : List (List UInt8)) => Hp M0 w0 S (cellsRes true b1 211 [anyK .u64] :: cellsRes true b0 9 ((st.map (fun t : List UInt8 => [str t])).flatten ++ sp.map is) :: extRes M1 w1 :: rs)) (fun (i : Int) (st : List (List UInt8)) => (a ≤ i ∧ i ≤ b) ∧ st.length = len ∧ PermL a b l st) (fun (i : Int) (st : List (List UInt8)) => (b - i).toNat) (a + IntKind.i64.wrap ((b - a).tdiv 4) * 2 - 1) (l)  (⟨⟨by omega, by omega⟩, by omega, PermL.refl _ _ _⟩) ⟨ke rfl, trivial⟩ (fun _ _ h => h) ?_)))))))
 rintro i st  ⟨⟨hi1, hi2⟩, hsl, hso⟩
 refine Tr.seq (Tr.seq (Tr.reg0 (cm rfl (cm rfl (cm rfl (co rfl (ok_quo rfl (vl rfl) (vl rfl) (by omega)) ?_))))))
 refine co rfl (ok_mul rfl (vl rfl) (vl rfl) ?hin) ?_; case hin => unfold InI; omega
 refine cad rfl rfl rfl rfl (by omega) (cad rfl rfl rfl rfl (by omega) (co rfl (ki rfl rfl rfl rfl) (Ch.nil (Fin.go (wk7 0 1 6 7 8 9 33 rfl ?_)))))
 refine Tr.cn rfl ?_ ?_ <;> intro h2 q2
 have := h2
 refine Tr.skip (Fin.go (Tr.seq (Tr.block (Tr.seq (Tr.regT (TO.efc 0 rfl rfl (by decide) (ef_callc rfl rfl (by decide) rfl (w_xnext) ⟨ke rfl, trivial⟩) (tm rfl (tp rfl (ki rfl rfl rfl rfl) (tp rfl (ok_andle rfl (vl rfl) (vl rfl) (by omega) (by omega)) ?_)))))))))
 
 refine TO.ex 39 rfl (fun z1 => TO.fact 39 rfl fun hz1 => ?_)
 refine tp rfl (ok_convI rfl Tryz.underlying150 Tryz.underlying3 (vl rfl) (by unfold InI; omega)) ?_
 refine tm rfl (TO.nil (Fin.go (Tr.cutD1V0 [(0, _), (1, _), (6, _), (7, _), (8, _), (9, _)] ⟨ke rfl, ke rfl, ke rfl, ke rfl, ke rfl, ke rfl, trivial⟩ (fun (ot : Int) => [(10, int ot)]) (fun (ot : Int) => Hp M0 w0 S (cellsRes true b1 211 [anyK .u64] :: cellsRes true b0 9 ((st.map (fun t : List UInt8 => [str t])).flatten ++ sp.map is) :: extRes M1 w1 :: rs)) (fun (ot : Int) => 0 ≤ ot ∧ ot < b - a) ?_ ?_)))
 refine Tr.seq (Tr.reg0 (cm rfl (cm rfl (co rfl (ki rfl rfl rfl rfl) (Ch.nil (Fin.go (wk8 0 1 6 7 8 9 10 43 rfl ?_)))))))
 refine Tr.cn rfl ?_ ?_ <;> intro h3 q3
 refine Tr.reg0 (cm rfl (cm rfl (csu rfl rfl rfl rfl (by omega) (cm rfl (Ch.nil (Fin.famD1V0 (_)  (⟨by omega, by omega⟩) ⟨ke rfl, ke rfl, ke rfl, ke rfl, ke rfl, ke rfl, ke rfl, trivial⟩ (fun _ _ h => h)))))))
 refine Tr.skip (Fin.famD1V0 (_)  (⟨by omega, by omega⟩) ⟨ke rfl, ke rfl, ke rfl, ke rfl, ke rfl, ke rfl, ke rfl, trivial⟩ (fun _ _ h => h))
 rintro ot  ⟨hot1, hot2⟩
 refine Tr.regX mixed [none, none, none, none, none, none, none, none, none, none, none, some (0, 1, false, 0), none, none, none, some (0, 1, false, 0), none, some (0, 1, true, 0), none, some (0, 1, true, 0)] (by kernel_rfl) ?_
 iterate 5 refine xm rfl ?_
 refine xo rfl (fun _ => ok_add rfl (vl rfl) (vl rfl) ?hin) ?_; case hin => unfold InI; omega
 refine xm rfl (xm rfl (xm rfl ?_))
 refine xo rfl (fun _ => ok_add rfl (vl rfl) (vl rfl) ?hin) ?_; case hin => unfold InI; omega
 refine xo rfl (fun _ => okp_indexSl rfl Tryz.underlying53 sz9 (vl rfl) (vl rfl) (by omega) (by omega)) (xrd 1 rfl rfl (rd_load1 rfl one9 (vl rfl) (cells1_atG (g := (fun t : List UInt8 => str t)) (by omega))) (xm rfl (xm rfl (xo rfl (fun _ => okp_indexSl rfl Tryz.underlying53 sz9 (vl rfl) (vl rfl) (by omega) (by omega)) (xrd 1 rfl rfl (rd_load1 rfl one9 (vl rfl) (cells1_atG (g := (fun t : List UInt8 => str t)) (by omega))) (xo rfl (fun _ => okp_indexSl rfl Tryz.underlying53 sz9 (vl rfl) (vl rfl) (by omega) (by omega)) ?_))))))
 refine Cx.ef0 1 rfl rfl (ef_store rfl rfl (vl rfl) (VL.le (vl rfl) (one_cellsP _)) sz9 rfl (by rw [cells_len (sz := 1) (fun _ => rfl)]; omega) (cells_setG (f := (fun t : List UInt8 => [str t])) (fun _ => rfl) (by omega))) ?_
 refine xo rfl (fun _ => okp_indexSl rfl Tryz.underlying53 sz9 (vl rfl) (vl rfl) (by omega) (by omega)) ?_
 refine Cx.ef0 1 rfl rfl (ef_store rfl rfl (vl rfl) (VL.le (vl rfl) (one_cellsP _)) sz9 rfl (by rw [cells_len (sz := 1) (fun _ => rfl)]; simp only [List.length_set]; omega) (cells_setG (f := (fun t : List UInt8 => [str t])) (fun _ => rfl) (by simp only [List.length_set]; omega))) ?_
 refine Cx.nil ⟨rfl, ?_⟩
 refine FinX.done (AllC.cons (AllC.cons (AllC.cons (AllC.map _)))) (Fin.block (Fin.go (wk6 0 1 6 7 8 9 rfl (Tr.reg0 (cm rfl (cad rfl rfl rfl rfl (by omega) (cm rfl (Ch.nil ?_))))))))
 exact Fin.famD2V0 (i + 1) (_)  (⟨⟨⟨by omega, by omega⟩, by simp only [List.length_set]; exact hsl, hso.swap (by omega) (by omega) (by omega) (by omega) (by omega) (by omega) (by omega)⟩, by omega⟩) ⟨ke rfl, ke rfl, ke rfl, ke rfl, ke rfl, ke rfl, trivial⟩ (fun _ _ h => h)
 have := h2
 refine Tr.exit (Fin.then_exit (Fin.then_exit (Fin.block_here (Fin.closeL (PermL a b l) 1 rfl (by exact hso) ?_))))
 refine Fin.drop 0 (Fin.retM0 rfl)
 refine Tr.skip (Fin.closeL (PermL a b l) 0 rfl (by exact PermL.refl _ _ _) ?_)
 exact Fin.retM0 rfl
end Go.Proofs.YtgdlhajfajddiaaGreat
namespace Go.Proofs.YtgdlhajfajddiaaGreat
open Go Go.RowKit Cp
set_option maxRecDepth 20000 in
theorem w_spdq0Os {l : List (List UInt8)} {c : List UInt8 × List UInt8 → Int} {b0 cap len : Nat} {sp : List Value} {a b lim : Int} (hc : ∀ x y, c (x, y) = Lib.compareBytes x y) (hln : l.length = len) (hll : len ≤ 1000000) (hw : Go.Sort.SWO (ltc c)) (hc5 : len < 50) (hB : Go.Sort.Below (ltc c) a.toNat b.toNat l.toArray) (h0 : 0 ≤ a) (hab : a ≤ b) (hb : b ≤ len) (hl0 : 0 ≤ lim) (hl1 : lim ≤ 100) (m : Nat) (hm : (b - a).toNat < m) (ih : ∀ {l : List (List UInt8)} {a b lim : Int} {sp : List Value}, l.length = len → Go.Sort.Below (ltc c) a.toNat b.toNat l.toArray → 0 ≤ a → a ≤ b → b ≤ len → 0 ≤ lim → lim ≤ 100 → (b - a).toNat + 1 < m → FunM Tryz.prog 211 [is (.slice (some ⟨b0, 0, none⟩) len cap), int a, int b, int lim] (unit_) (cellsRes true b0 9 ((l.map (fun t : List UInt8 => [str t])).flatten ++ sp.map is)) (fun _ => relRes b0 9 (fun t : List UInt8 => [str t]) (SortL c a b l) (sp.map is)))  : FunM Tryz.prog 211 [is (.slice (some ⟨b0, 0, none⟩) len cap), int a, int b, int lim] (unit_) (cellsRes true b0 9 ((l.map (fun t : List UInt8 => [str t])).flatten ++ sp.map is)) (fun _ => relRes b0 9 (fun t : List UInt8 => [str t]) (SortL c a b l) (sp.map is)) := by
 refine FunM.of Tryz.func211 rfl rfl (by exact Nat.le_of_ble_eq_true rfl) fun M0 w0 S rs M1 w1 => ?_
 have hls : b.toNat ≤ l.toArray.size := by simp only [List.size_toArray]; omega
 refine Tr.seq (Tr.reg0 (cm rfl (Ch.nil (Fin.go (Tr.seq (Tr.reg0 (cm rfl (Ch.nil (Fin.go (Tr.block (Tr.loopD4V0 [(0, _)] ⟨ke rfl, trivial⟩ (fun (a1 : Int) (b1 : Int) (p : Int × Bool × Bool) (st : List (List UInt8)) => [(1, int a1), (2, int b1), (3, int p.1), (8, bool p.2.1), (9, bool p.2.2)]) (fun (a1 : Int) (b1 : Int) (p : Int × Bool × Bool) (st : List (List UInt8)) => Hp M0 w0 S (cellsRes true b0 9 ((st.map (fun t : List UInt8 => [str t])).flatten ++ sp.map is) :: extRes M1 w1 :: rs)) (fun (a1 : Int) (b1 : Int) (p : Int × Bool × Bool) (st : List (List UInt8)) => ((a ≤ a1 ∧ a1 ≤ b1 ∧ b1 ≤ b) ∧ 0 ≤ p.1 ∧ p.1 ≤ 100) ∧ st.length = len ∧ PS (ltc c) a.toNat b.toNat a1.toNat b1.toNat l.toArray st.toArray) (fun (a1 : Int) (b1 : Int) (p : Int × Bool × Bool) (st : List (List UInt8)) => (b1 - a1).toNat) (a) (b) ((lim, (true, true))) (l)  (⟨⟨⟨by omega, hab, by omega⟩, hl0, hl1⟩, hln, PS.init (by omega) hB⟩) ⟨ke rfl, ke rfl, ke rfl, ke rfl, ke rfl, trivial⟩ (fun _ _ h => h) ?_)))))))))))
 rintro a1 b1 p st  ⟨⟨⟨ha1, ha2, ha3⟩, hpl, hpl2⟩, hsl, hps⟩
 refine Tr.block (Tr.seq (Tr.reg0 (cm rfl (cm rfl (csu rfl rfl rfl rfl (by omega) (cm rfl (Ch.nil (Fin.go (Tr.seq (Tr.seq (Tr.reg0 (cm rfl (co rfl (ki rfl rfl rfl rfl) ?_)))))))))))))
 refine Ch.nil (Fin.go ?_)
 refine Tr.cn rfl ?_ ?_ <;> intro h1 q1
 refine Tr.seq (Tr.regT (tm rfl (tm rfl (tm rfl (TO.efc 0 rfl rfl (by decide) (ef_callc rfl rfl (by decide) rfl (w_sinsOs hc (by omega) (by omega) hw (by omega) (by omega) (by omega)) ⟨ke rfl, ke rfl, ke rfl, trivial⟩) (TO.openL 0 rfl fun t1 hp1 => ?_))))))
 have hpl1 := hp1.len
 have hdone := (hps.perm hls hp1.1).done hp1.2
 refine TO.nil (Fin.go (Tr.weak [] trivial (Tr.ret (Fin.then_ret (Fin.block_ret (Fin.then_ret (Fin.block_ret (Fin.closeL (SortL c a b l) 0 rfl (hdone) (Fin.retM0r rfl)))))))))
 refine Tr.skip (Fin.go (Tr.seq (Tr.seq (Tr.reg0 (cm rfl (co rfl (ki rfl rfl rfl rfl) (Ch.nil (Fin.go (wk8 0 1 2 3 8 9 10 29 rfl ?_)))))))))
 refine Tr.cn rfl ?_ ?_ <;> intro h2 q2
 refine Tr.seq (Tr.regT (tm rfl (tm rfl (tm rfl (TO.efc 0 rfl rfl (by decide) (ef_callc rfl rfl (by decide) rfl (w_sheapOs hc (by omega) (by omega) hw (by omega) (by omega) (by omega)) ⟨ke rfl, ke rfl, ke rfl, trivial⟩) (TO.openL 0 rfl fun t2 hp2 => ?_))))))
 have hpl2 := hp2.len
 have hdone := (hps.perm hls hp2.1).done hp2.2
 refine TO.nil (Fin.go (Tr.ret (Fin.then_ret (Fin.block_ret (Fin.then_ret (Fin.block_ret (Fin.closeL (SortL c a b l) 0 rfl (hdone) (Fin.retM0r rfl))))))))
 refine Tr.skip (Fin.go (Tr.cutD2V0 [(0, _), (1, _), (2, _), (8, _), (9, _), (10, _)] ⟨ke rfl, ke rfl, ke rfl, ke rfl, ke rfl, ke rfl, trivial⟩ (fun (lim2 : Int) (st2 : List (List UInt8)) => [(3, int lim2)]) (fun (lim2 : Int) (st2 : List (List UInt8)) => Hp M0 w0 S (cellsRes true b0 9 ((st2.map (fun t : List UInt8 => [str t])).flatten ++ sp.map is) :: extRes M1 w1 :: rs)) (fun (lim2 : Int) (st2 : List (List UInt8)) => 0 ≤ lim2 ∧ lim2 ≤ 100 ∧ st2.length = len ∧ PS (ltc c) a.toNat b.toNat a1.toNat b1.toNat l.toArray st2.toArray) ?_ ?_))
 refine Tr.seq (Tr.reg0 (cm rfl (co rfl (ok_not rfl (vl rfl)) (Ch.nil (Fin.go ?_)))))
 refine Tr.cn rfl ?_ ?_ <;> intro h3 q3
 refine Tr.seq (Tr.regT (tm rfl (tm rfl (tm rfl (TO.efc 0 rfl rfl (by decide) (ef_callc rfl rfl (by decide) rfl (w_sbrkOs hc (by omega) (by omega) (by omega) (by omega) (by omega) (by omega)) ⟨ke rfl, ke rfl, ke rfl, trivial⟩) (TO.openL 0 rfl fun t3 hp3 => ?_))))))
 have hpl3 := hp3.len
 have hps := hps.perm hls hp3
 refine TO.nil (Fin.go (wk7 0 1 2 3 8 9 10 rfl (Tr.reg0 (cm rfl (csu rfl rfl rfl rfl (by omega) (cm rfl (Ch.nil (Fin.famD2V0 (_) (_)  (⟨by omega, by omega, by omega, hps⟩) ⟨ke rfl, ke rfl, ke rfl, ke rfl, ke rfl, ke rfl, ke rfl, trivial⟩ (fun _ _ h => h)))))))))
 refine Tr.skip (Fin.famD2V0 (_) (_)  (⟨by omega, by omega, by omega, hps⟩) ⟨ke rfl, ke rfl, ke rfl, ke rfl, ke rfl, ke rfl, ke rfl, trivial⟩ (fun _ _ h => h))
 rintro lim2 st2  ⟨hlm2, hlm3, hsl2, hps⟩
 refine Tr.seq (Tr.regT (tm rfl (tm rfl (tm rfl (TO.efc 0 rfl rfl (by decide) (ef_callc rfl rfl (by decide) rfl (w_spivOs hc (by omega) (by omega) (by omega) (by omega) (by omega) (by omega)) ⟨ke rfl, ke rfl, ke rfl, trivial⟩) ?_)))))
 refine TO.ex 46 rfl (fun z1 => TO.fact 46 rfl fun hz1 => ?_)
 obtain ⟨hpv1, hpv2⟩ := hz1
 refine tm rfl (tp rfl (ok_extract rfl (vl rfl) rfl) (tp rfl (ok_extract rfl (vl rfl) rfl) (tm rfl (tm rfl (TO.nil (Fin.go (wk9 0 1 2 3 8 9 10 11 12 rfl (Tr.cutD3V0 [(0, _), (1, _), (2, _), (3, _), (8, _), (9, _), (10, _)] ⟨ke rfl, ke rfl, ke rfl, ke rfl, ke rfl, ke rfl, ke rfl, trivial⟩ (fun (pv : Int) (hint : Int) (st3 : List (List UInt8)) => [(11, int pv), (12, int hint)]) (fun (pv : Int) (hint : Int) (st3 : List (List UInt8)) => Hp M0 w0 S (cellsRes true b0 9 ((st3.map (fun t : List UInt8 => [str t])).flatten ++ sp.map is) :: extRes M1 w1 :: rs)) (fun (pv : Int) (hint : Int) (st3 : List (List UInt8)) => (a1 ≤ pv ∧ pv < b1) ∧ st3.length = len ∧ PS (ltc c) a.toNat b.toNat a1.toNat b1.toNat l.toArray st3.toArray) ?_ ?_))))))))
 refine Tr.seq (Tr.reg0 (cm rfl (co rfl (ki rfl rfl rfl rfl) (Ch.nil (Fin.go ?_)))))
 refine Tr.cn rfl ?_ ?_ <;> intro h4 q4
 refine Tr.seq (Tr.regT (tm rfl (tm rfl (tm rfl (TO.efc 0 rfl rfl (by decide) (ef_callc rfl rfl (by decide) rfl (w_srevOs hc (by omega) (by omega) (by omega) (by omega) (by omega)) ⟨ke rfl, ke rfl, ke rfl, trivial⟩) (TO.openL 0 rfl fun t5 hp5 => ?_))))))
 have hpl5 := hp5.len
 have hps := hps.perm hls hp5
 refine TO.nil (Fin.go (wk8 0 1 2 3 8 9 10 11 rfl (Tr.seq (Tr.reg0 (cm rfl (csu rfl rfl rfl rfl (by omega) (cm rfl (cm rfl (csu rfl rfl rfl rfl (by omega) (csu rfl rfl rfl rfl (by omega) (cm rfl (Ch.nil (Fin.go ?_)))))))))))))
 refine wk8 0 1 2 3 8 9 10 11 rfl (Tr.reg0 (cm rfl (Ch.nil (Fin.famD3V0 (_) (_) (_)  (⟨⟨by omega, by omega⟩, by omega, hps⟩) ⟨ke rfl, ke rfl, ke rfl, ke rfl, ke rfl, ke rfl, ke rfl, ke rfl, ke rfl, trivial⟩ (fun _ _ h => h)))))
 refine Tr.skip (Fin.famD3V0 (_) (_) (_)  (⟨⟨by omega, by omega⟩, by omega, hps⟩) ⟨ke rfl, ke rfl, ke rfl, ke rfl, ke rfl, ke rfl, ke rfl, ke rfl, ke rfl, trivial⟩ (fun _ _ h => h))
 rintro pv hint st3  ⟨⟨hpv1, hpv2⟩, hsl3, hps⟩
 refine wk9 0 1 2 3 8 9 10 11 12 rfl (Tr.cutk [0, 1, 2, 3, 8, 9, 10, 11] [] (True) ?_ (fun h5 => ?_))
 refine Tr.seq (Tr.reg0 (cm rfl (cm rfl ?_)))
 refine Ch.cs 62 rfl ?_ ?_ <;> intro h6 q6
 refine cym h6 rfl (co rfl (kpt rfl rfl h6 rfl) (cm rfl ?_))
 refine Ch.cs 65 rfl ?_ ?_ <;> intro h7 q7
 refine cym h7 rfl (cy h7 rfl (ki rfl rfl rfl rfl) (co rfl (kpt rfl rfl h7 rfl) (Ch.nil (Fin.go (wk9 0 1 2 3 8 9 10 11 68 rfl ?_)))))
 refine Tr.cn rfl ?_ ?_ <;> intro h8 q8
 refine Tr.seq (Tr.regT (tm rfl (tm rfl (tm rfl (TO.efc 0 rfl rfl (by decide) (ef_callc rfl rfl (by decide) rfl (w_sins5Os hc (by omega) (by omega) hw (by omega) (by omega) (by omega) (by omega)) ⟨ke rfl, ke rfl, ke rfl, trivial⟩) ?_)))))
 refine TO.ex 72 rfl (fun z2 => TO.fact 72 rfl fun hz2 => ?_)
 have hzz := hz2
 refine TO.nil (Fin.go ?_)
 refine Tr.cn rfl ?_ ?_ <;> intro h9 q9
 have hdone := hps.done (hzz h9)
 refine Tr.ret (Fin.then_ret (Fin.block_ret (Fin.then_ret (Fin.block_ret (Fin.closeL (SortL c a b l) 0 rfl (hdone) (Fin.retM0r rfl))))))
 refine Tr.skip (Fin.fam_same () (by simp_all) (kk8 rfl))
 refine Tr.skip (Fin.fam_same () (by simp_all) (kk8 rfl))
 refine cnt h7 rfl (cnt h7 rfl (co rfl (kpf rfl rfl h7 rfl) (Ch.nil (Fin.go (wk9 0 1 2 3 8 9 10 11 68 rfl (Tr.cond rfl (fun h => nomatch h) (fun _ => ?_)))))))
 refine Tr.skip (Fin.fam_same () (by simp_all) (kk8 rfl))
 refine cnt h6 rfl (co rfl (kpf rfl rfl h6 rfl) (cm rfl (cnd rfl rfl (cnd rfl rfl (co rfl (kpf rfl rfl rfl rfl) (Ch.nil (Fin.go (wk9 0 1 2 3 8 9 10 11 68 rfl (Tr.cond rfl (fun h => nomatch h) (fun _ => ?_))))))))))
 refine Tr.skip (Fin.fam_same () (by simp_all) (kk8 rfl))
 refine Tr.seq (Tr.seq (Tr.reg1 mixed (by kernel_rfl) (cm rfl (co rfl (ki rfl rfl rfl rfl) (cm rfl ?_)))))
 refine Ch.cs 75 rfl ?_ ?_ <;> intro h10 q10
 refine cym h10 rfl (cym h10 rfl ?_)
 refine cy h10 rfl (ok_sub rfl (vl rfl) (vl rfl) ?hin) ?_; case hin => unfold InI; omega
 refine cy h10 rfl (okp_indexSl rfl Tryz.underlying53 sz9 (vl rfl) (vl rfl) (by omega) (by omega)) (cy h10 rfl (ok_rd 0 rfl (rd_load1 rfl one9 (vl rfl) (cells1_atG (g := (fun t : List UInt8 => str t)) (by omega)))) (cym h10 rfl (cym h10 rfl (cy h10 rfl (okp_indexSl rfl Tryz.underlying53 sz9 (vl rfl) (vl rfl) (by omega) (by omega)) (cy h10 rfl (ok_rd 0 rfl (rd_load1 rfl one9 (vl rfl) (cells1_atG (g := (fun t : List UInt8 => str t)) (by omega)))) (cy h10 rfl (ok_call rfl (w_lessCOs hc) ⟨ke rfl, ke rfl, trivial⟩) (cy h10 rfl (ok_not rfl (vl rfl)) (co rfl (kpt rfl rfl h10 rfl) (Ch.nil (Fin.go (wk9 0 1 2 3 8 9 10 11 87 rfl ?_)))))))))))
 refine Tr.cn rfl ?_ ?_ <;> intro h11 q11
 refine Tr.seq (Tr.regT ?_)
 iterate 4 refine tm rfl ?_
 refine TO.efc 0 rfl rfl (by decide) (ef_callc rfl rfl (by decide) rfl (w_speqOs hc (by omega) (by omega) (by omega) (by omega) (by omega) (by omega) (by omega)) ⟨ke rfl, ke rfl, ke rfl, ke rfl, trivial⟩) (TO.openL 0 rfl fun t7 hp7 => ?_)
 have hpl7 := hp7.len
 obtain ⟨hps, hk1, hk2⟩ := hps.eqL hw hls hp7 (by omega) (by omega) rfl (by omega) (by omega) (by omega) (by omega) (by omega) (by assumption)
 refine tm rfl (TO.nil (Fin.go (wk6 0 2 3 8 9 13 rfl (Tr.seq (Tr.reg0 (cm rfl (cm rfl (Ch.nil (Fin.go (Tr.exit (Fin.then_exit (Fin.block_here (Fin.famD4V0 (_) (_) ((lim2, (_, _))) (_)  (⟨⟨⟨⟨by omega, by omega, by omega⟩, hlm2, hlm3⟩, by omega, by exact hps⟩, by omega⟩) ⟨ke rfl, ke rfl, ke rfl, ke rfl, ke rfl, ke rfl, trivial⟩ (fun _ _ h => h))))))))))))))
 refine Tr.skip (Fin.go (Tr.seq (Tr.regT ?_)))
 iterate 4 refine tm rfl ?_
 refine TO.efc 0 rfl rfl (by decide) (ef_callc rfl rfl (by decide) rfl (w_spartOs hc (by omega) (by omega) (by omega) (by omega) (by omega) (by omega) (by omega)) ⟨ke rfl, ke rfl, ke rfl, ke rfl, trivial⟩) ?_
 refine TO.ex 99 rfl (fun z3 => TO.fact 99 rfl fun hz3 => ?_)
 refine TO.openL 0 rfl fun t8 hp8 => ?_
 have hpl8 := hp8.len
 obtain ⟨hPm, hPt⟩ := parted_of hw hp8 (by omega) (by omega) (by omega) (by omega)
 have hps := hps.perm hls hPm
 have hk1 := hPt.h1
 have hk2 := hPt.h2
 generalize (PA c a1 b1 pv st3).1 = k at *
 refine tm rfl (tp rfl (ok_extract rfl (vl rfl) rfl) (tp rfl (ok_extract rfl (vl rfl) rfl) (tm rfl (tm rfl (TO.nil (Fin.go (wk7 0 1 2 3 10 14 15 rfl (Tr.seq (Tr.reg0 (cm rfl (cm rfl (Ch.nil (Fin.go (Tr.seq ?_))))))))))))))
 refine Tr.reg0 (cm rfl (cm rfl (csu rfl rfl rfl rfl (by omega) (cm rfl (cm rfl (csu rfl rfl rfl rfl (by omega) (cm rfl (cm rfl (Ch.nil (Fin.go (wk9 0 1 2 3 9 10 14 16 17 rfl (Tr.seq (Tr.reg0 ?_)))))))))))))
 refine cm rfl (co rfl (ok_quo rfl (vl rfl) (vl rfl) (by omega)) (cm rfl (Ch.nil (Fin.go (Tr.seq (Tr.reg0 (cm rfl (cm rfl (co rfl (ki rfl rfl rfl rfl) (Ch.nil (Fin.go (wk10 0 1 2 3 9 14 16 17 18 113 rfl ?_))))))))))))
 refine Tr.cn rfl ?_ ?_ <;> intro h12 q12
 refine Tr.seq (Tr.reg0 (cm rfl (cm rfl (co rfl (ki rfl rfl rfl rfl) (cm rfl (Ch.nil (Fin.go (wk7 0 1 2 3 8 9 14 rfl (Tr.seq (Tr.regT ?_))))))))))
 iterate 4 refine tm rfl ?_
 refine TO.efc 0 rfl rfl (by decide) (ef_callc rfl rfl (by decide) rfl (ih (by omega) (by exact hps.belowL (Nat.le_of_lt hPt.h2)) (by omega) (by omega) (by omega) (by omega) (by omega) (by omega)) ⟨ke rfl, ke rfl, ke rfl, ke rfl, trivial⟩) ?_
 refine TO.openL 0 rfl fun t9 hp9 => ?_
 have hpl9 := hp9.len
 have hps := hps.left hw hls hPt hp9.1 hp9.2
 refine TO.nil (Fin.go (Tr.reg0 (cm rfl (cad rfl rfl rfl rfl (by omega) (cm rfl (Ch.nil (Fin.block (Fin.famD4V0 (_) (_) ((lim2, (_, _))) (_)  (⟨⟨⟨⟨by omega, by omega, by omega⟩, hlm2, hlm3⟩, by omega, by exact hps⟩, by omega⟩) ⟨ke rfl, ke rfl, ke rfl, ke rfl, ke rfl, ke rfl, trivial⟩ (fun _ _ h => h)))))))))
 refine Tr.seq (Tr.reg0 (cm rfl (cm rfl (co rfl (ki rfl rfl rfl rfl) (cm rfl (Ch.nil (Fin.go (wk7 0 1 2 3 8 9 14 rfl (Tr.seq (Tr.regT (tm rfl (tm rfl ?_))))))))))))
 refine tp rfl (ok_add rfl (vl rfl) (vl rfl) ?hin) ?_; case hin => unfold InI; omega
 refine tm rfl (tm rfl (TO.efc 0 rfl rfl (by decide) (ef_callc rfl rfl (by decide) rfl (ih (by omega) (by exact hPt.belowR) (by omega) (by omega) (by omega) (by omega) (by omega) (by omega)) ⟨ke rfl, ke rfl, ke rfl, ke rfl, trivial⟩) ?_))
 refine TO.openL 0 rfl fun t10 hp10 => ?_
 have hpl10 := hp10.len
 have hps := hps.right hw hls hPt hp10.1 hp10.2
 refine TO.nil (Fin.go (Tr.reg0 (cm rfl (cm rfl (Ch.nil (Fin.block (Fin.famD4V0 (_) (_) ((lim2, (_, _))) (_)  (⟨⟨⟨⟨by omega, by omega, by omega⟩, hlm2, hlm3⟩, by omega, by exact hps⟩, by omega⟩) ⟨ke rfl, ke rfl, ke rfl, ke rfl, ke rfl, ke rfl, trivial⟩ (fun _ _ h => h))))))))
 iterate 11 refine cnt h10 rfl ?_
 refine co rfl (kpf rfl rfl h10 rfl) (Ch.nil (Fin.go (wk9 0 1 2 3 8 9 10 11 87 rfl (Tr.cond rfl (fun h => nomatch h) (fun _ => ?_)))))
 refine Tr.skip (Fin.go (Tr.seq (Tr.regT ?_)))
 iterate 4 refine tm rfl ?_
 refine TO.efc 0 rfl rfl (by decide) (ef_callc rfl rfl (by decide) rfl (w_spartOs hc (by omega) (by omega) (by omega) (by omega) (by omega) (by omega) (by omega)) ⟨ke rfl, ke rfl, ke rfl, ke rfl, trivial⟩) ?_
 refine TO.ex 99 rfl (fun z4 => TO.fact 99 rfl fun hz4 => ?_)
 refine TO.openL 0 rfl fun t11 hp11 => ?_
 have hpl11 := hp11.len
 obtain ⟨hPm, hPt⟩ := parted_of hw hp11 (by omega) (by omega) (by omega) (by omega)
 have hps := hps.perm hls hPm
 have hk1 := hPt.h1
 have hk2 := hPt.h2
 generalize (PA c a1 b1 pv st3).1 = k at *
 refine tm rfl (tp rfl (ok_extract rfl (vl rfl) rfl) (tp rfl (ok_extract rfl (vl rfl) rfl) (tm rfl (tm rfl (TO.nil (Fin.go (wk7 0 1 2 3 10 14 15 rfl (Tr.seq (Tr.reg0 (cm rfl (cm rfl (Ch.nil (Fin.go (Tr.seq ?_))))))))))))))
 refine Tr.reg0 (cm rfl (cm rfl (csu rfl rfl rfl rfl (by omega) (cm rfl (cm rfl (csu rfl rfl rfl rfl (by omega) (cm rfl (cm rfl (Ch.nil (Fin.go (wk9 0 1 2 3 9 10 14 16 17 rfl (Tr.seq (Tr.reg0 ?_)))))))))))))
 refine cm rfl (co rfl (ok_quo rfl (vl rfl) (vl rfl) (by omega)) (cm rfl (Ch.nil (Fin.go (Tr.seq (Tr.reg0 (cm rfl (cm rfl (co rfl (ki rfl rfl rfl rfl) (Ch.nil (Fin.go (wk10 0 1 2 3 9 14 16 17 18 113 rfl ?_))))))))))))
 refine Tr.cn rfl ?_ ?_ <;> intro h13 q13
 refine Tr.seq (Tr.reg0 (cm rfl (cm rfl (co rfl (ki rfl rfl rfl rfl) (cm rfl (Ch.nil (Fin.go (wk7 0 1 2 3 8 9 14 rfl (Tr.seq (Tr.regT ?_))))))))))
 iterate 4 refine tm rfl ?_
 refine TO.efc 0 rfl rfl (by decide) (ef_callc rfl rfl (by decide) rfl (ih (by omega) (by exact hps.belowL (Nat.le_of_lt hPt.h2)) (by omega) (by omega) (by omega) (by omega) (by omega) (by omega)) ⟨ke rfl, ke rfl, ke rfl, ke rfl, trivial⟩) ?_
 refine TO.openL 0 rfl fun t12 hp12 => ?_
 have hpl12 := hp12.len
 have hps := hps.left hw hls hPt hp12.1 hp12.2
 refine TO.nil (Fin.go (Tr.reg0 (cm rfl (cad rfl rfl rfl rfl (by omega) (cm rfl (Ch.nil (Fin.block (Fin.famD4V0 (_) (_) ((lim2, (_, _))) (_)  (⟨⟨⟨⟨by omega, by omega, by omega⟩, hlm2, hlm3⟩, by omega, by exact hps⟩, by omega⟩) ⟨ke rfl, ke rfl, ke rfl, ke rfl, ke rfl, ke rfl, trivial⟩ (fun _ _ h => h)))))))))
 refine Tr.seq (Tr.reg0 (cm rfl (cm rfl (co rfl (ki rfl rfl rfl rfl) (cm rfl (Ch.nil (Fin.go (wk7 0 1 2 3 8 9 14 rfl (Tr.seq (Tr.regT (tm rfl (tm rfl ?_))))))))))))
 refine tp rfl (ok_add rfl (vl rfl) (vl rfl) ?hin) ?_; case hin => unfold InI; omega
 refine tm rfl (tm rfl (TO.efc 0 rfl rfl (by decide) (ef_callc rfl rfl (by decide) rfl (ih (by omega) (by exact hPt.belowR) (by omega) (by omega) (by omega) (by omega) (by omega) (by omega)) ⟨ke rfl, ke rfl, ke rfl, ke rfl, trivial⟩) ?_))
 refine TO.openL 0 rfl fun t13 hp13 => ?_
 have hpl13 := hp13.len
 have hps := hps.right hw hls hPt hp13.1 hp13.2
 refine TO.nil (Fin.go (Tr.reg0 (cm rfl (cm rfl (Ch.nil (Fin.block (Fin.famD4V0 (_) (_) ((lim2, (_, _))) (_)  (⟨⟨⟨⟨by omega, by omega, by omega⟩, hlm2, hlm3⟩, by omega, by exact hps⟩, by omega⟩) ⟨ke rfl, ke rfl, ke rfl, ke rfl, ke rfl, ke rfl, trivial⟩ (fun _ _ h => h))))))))
theorem w_spdqOs : ∀ (m : Nat) {l : List (List UInt8)} {c : List UInt8 × List UInt8 → Int} {b0 cap len : Nat} {sp : List Value} {a b lim : Int}, (hc : ∀ x y, c (x, y) = Lib.compareBytes x y) → (hln : l.length = len) → (hll : len ≤ 1000000) → (hw : Go.Sort.SWO (ltc c)) → (hc5 : len < 50) → Go.Sort.Below (ltc c) a.toNat b.toNat l.toArray → 0 ≤ a → a ≤ b → b ≤ len → 0 ≤ lim → lim ≤ 100 → (b - a).toNat < m → FunM Tryz.prog 211 [is (.slice (some ⟨b0, 0, none⟩) len cap), int a, int b, int lim] (unit_) (cellsRes true b0 9 ((l.map (fun t : List UInt8 => [str t])).flatten ++ sp.map is)) (fun _ => relRes b0 9 (fun t : List UInt8 => [str t]) (SortL c a b l) (sp.map is))
  | 0, _, _, _, _, _, _, _, _, _, _, _, _, _, _, _, _, _, _, _, _, h => absurd h (Nat.not_lt_zero _)
  | m + 1, _, _, _, _, _, _, _, _, _, hc, hln, hll, hw, hc5, hB, h0, hab, hb, hl0, hl1, hm => w_spdq0Os hc hln hll hw hc5 hB h0 hab hb hl0 hl1 (m + 1) hm (fun h1 h2 h3 h4 h5 h6 h7 h8 => w_spdqOs m hc h1 hll hw hc5 h2 h3 h4 h5 h6 h7 (by omega))

set_option maxRecDepth 20000 in
theorem w_sortOs {l : List (List UInt8)} {c : List UInt8 × List UInt8 → Int} {b0 cap len : Nat} {sp : List Value}  (hc : ∀ x y, c (x, y) = Lib.compareBytes x y) (hln : l.length = len) (hw : Go.Sort.SWO (ltc c)) (hc5 : len < 50) : FunM Tryz.prog 162 [is (.slice (some ⟨b0, 0, none⟩) len cap)] (unit_) (cellsRes true b0 9 ((l.map (fun t : List UInt8 => [str t])).flatten ++ sp.map is)) (fun _ => relRes b0 9 (fun t : List UInt8 => [str t]) (SortL c 0 len l) (sp.map is)) := by
 refine FunM.of Tryz.func162 rfl rfl (by exact Nat.le_of_ble_eq_true rfl) fun M0 w0 S rs M1 w1 => ?_
 have hw64 : IntKind.u64.wrap ((len : Nat) : Int) = len := IntWalk.u64_in _ ⟨by omega, by omega⟩
 refine Tr.seq (Tr.reg0 (cm rfl (co rfl (okb_len rfl Tryz.underlying53 (vl rfl)) (cm rfl (Ch.nil (Fin.go (Tr.regT (tm rfl (tm rfl (tm rfl (tp rfl (ok_conv rfl Tryz.underlying3 Tryz.underlying150 (vl rfl)) (tp rfl (ok_call rfl (w_BLenx (by omega) (by omega)) ⟨ke rfl, trivial⟩) ?_))))))))))))
 refine TO.ex 9 rfl (fun k => TO.fact 9 rfl fun hk => ?_)
 obtain ⟨hk1, hk2, hk3⟩ := hk
 refine TO.efc 0 rfl rfl (by decide) (ef_callc rfl rfl (by decide) rfl (w_spdqOs (len + 1) hc (by omega) (by omega) hw (by omega) (.inl rfl) (by omega) (by omega) (by omega) (by omega) (by omega) (by omega)) ⟨ke rfl, ke rfl, ke rfl, ke rfl, trivial⟩) (TO.openL 0 rfl fun t1 hp1 => ?_)
 have hpl1 := hp1.len
 refine TO.nil (Fin.closeL (SortL c 0 len l) 0 rfl (hp1) (Fin.retM0 rfl))
end Go.Proofs.YtgdlhajfajddiaaGreat
namespace Go.Proofs.YtgdlhajfajddiaaGreat
open Go Go.RowKit Cp
set_option maxRecDepth 20000 in
theorem w_compOs {l : List (List UInt8)} {b0 cap len : Nat} {sp : List Value} (hln : l.length = len) (hll : len ≤ 1000000) (hcap : len ≤ cap) (hm : cap ≤ maxLen) : FunM Tryz.prog 163 [is (.slice (some ⟨b0, 0, none⟩) len cap)] (is (.slice (some ⟨b0, 0, none⟩) (ddL l).length cap)) (cellsRes true b0 9 ((l.map (fun t : List UInt8 => [str t])).flatten ++ sp.map is)) (fun _ => cellsRes true b0 9 (((ddL l).map (fun t : List UInt8 => [str t])).flatten ++ ((List.replicate (l.length - (ddL l).length) (([.string (ByteArray.mk #[])] : List Value).map is)).flatten ++ sp.map is))) := by
 refine FunM.of Tryz.func163 rfl rfl (by exact Nat.le_of_ble_eq_true rfl) fun M0 w0 S rs M1 w1 => ?_
 have hmx : cap ≤ 9223372036854775807 := by unfold maxLen at hm; omega
 refine Tr.seq (Tr.reg0 (cm rfl (Ch.nil (Fin.go (Tr.seq (Tr.seq (Tr.reg0 (cm rfl (co rfl (okb_len rfl Tryz.underlying53 (vl rfl)) (co rfl (ki rfl rfl rfl rfl) (Ch.nil (Fin.go ?_))))))))))))
 refine Tr.cn rfl ?_ ?_ <;> intro h1 q1
 refine Tr.seq (Tr.reg0 (cm rfl (cm rfl (Ch.nil (Fin.go (Tr.ret (Fin.then_ret ?_)))))))
 refine Fin.retM1 rfl rfl ?_ (fun _ _ _ _ => by rw [ddL_short (by omega), Nat.sub_self]; rfl)
 · refine Pr.le_of_eq ?_; rw [ddL_short (by omega), hln]
 refine Tr.skip (Fin.go (Tr.seq (Tr.seq (Tr.reg0 (cm rfl (Ch.nil (Fin.go (Tr.block ?_))))))))
 refine Tr.loopD1V0 [(0, _)] ⟨ke rfl, trivial⟩ (fun (k : Nat) => [(3, int ((k : Nat) : Int))]) (fun (k : Nat) => Hp M0 w0 S (cellsRes true b0 9 ((l.map (fun t : List UInt8 => [str t])).flatten ++ sp.map is) :: extRes M1 w1 :: rs)) (fun (k : Nat) => (1 ≤ k ∧ k ≤ len) ∧ ddL (l.take k) = l.take k) (fun (k : Nat) => len - k) (1)  (⟨⟨by omega, by omega⟩, ddL_short (by rw [List.length_take]; omega)⟩) ⟨ke rfl, trivial⟩ (fun _ _ h => h) ?_
 rintro k  ⟨⟨hk1, hk2⟩, hdd⟩
 refine Tr.seq (Tr.seq (Tr.reg0 (cm rfl (cm rfl (co rfl (okb_len rfl Tryz.underlying53 (vl rfl)) (co rfl (ki rfl rfl rfl rfl) (Ch.nil (Fin.go ?_))))))))
 refine Tr.cn rfl ?_ ?_ <;> intro h2 q2
 have hkl : k < len := by have := of_decide_eq_true h2; omega
 obtain ⟨x, hx⟩ := at_ (l := l) (k := k) (by omega)
 obtain ⟨p, hp⟩ := at_ (l := l) (k := k - 1) (by omega)
 refine Tr.skip (Fin.go (Tr.seq (Tr.block (Tr.seq (Tr.reg1 mixed (by kernel_rfl) (cm rfl (cm rfl (co rfl (okp_indexSl rfl Tryz.underlying53 sz9 (vl rfl) (vl rfl) (by omega) (by omega)) (co rfl (ok_rd 0 rfl (rd_load1 rfl one9 (vl rfl) (cell1_off (g := fun t : List UInt8 => str t) (k := k) (by omega) hx))) (cm rfl (cm rfl (csu rfl rfl rfl rfl (by omega) (co rfl (okp_indexSl rfl Tryz.underlying53 sz9 (vl rfl) (vl rfl) (by omega) (by omega)) ?_)))))))))))))
 refine co rfl (ok_rd 0 rfl (rd_load1 rfl one9 (vl rfl) (cell1_off (g := fun t : List UInt8 => str t) (k := k - 1) (by omega) hp))) (co rfl (ok_eqs rfl (vl rfl) (vl rfl)) (Ch.nil (Fin.go (wk3 0 3 25 rfl ?_))))
 refine Tr.cn rfl ?_ ?_ <;> intro h3 q3
 refine Tr.seq (Tr.reg0 (cm rfl (cm rfl (co rfl (okb_sliceFrom rfl Tryz.underlying53 sz9 (vl rfl) (vl rfl) (by omega) (by omega) (by omega)) (cm rfl (Ch.nil (Fin.go (Tr.seq (Tr.seq (Tr.reg0 (cm rfl (Ch.nil (Fin.go (Tr.block ?_))))))))))))))
 refine Tr.loopD3V0 [(0, _), (4, _)] ⟨ke rfl, ke rfl, trivial⟩ (fun (st : List (List UInt8)) (w : Nat) (j : Nat) => [(3, int ((w : Nat) : Int)), (5, int ((j : Nat) : Int))]) (fun (st : List (List UInt8)) (w : Nat) (j : Nat) => Hp M0 w0 S (cellsRes true b0 9 ((st.map (fun t : List UInt8 => [str t])).flatten ++ sp.map is) :: extRes M1 w1 :: rs)) (fun (st : List (List UInt8)) (w : Nat) (j : Nat) => (st.length = len ∧ k ≤ w ∧ 1 ≤ j ∧ k + j ≤ len ∧ w + 1 ≤ k + j) ∧ st.take w = ddL (l.take (k + j)) ∧ ∀ i, k + j ≤ i + 1 → st[i]? = l[i]?) (fun (st : List (List UInt8)) (w : Nat) (j : Nat) => len - (k + j)) (l) (k) (1)  (⟨⟨hln, Nat.le_refl _, Nat.le_refl _, by omega, by omega⟩, by rw [ddL_same (by omega) hx hp (Iff.rfl.2 (by assumption)), hdd], fun _ _ => rfl⟩) ⟨ke rfl, ke rfl, trivial⟩ (fun _ _ h => h) ?_
 rintro st w j  ⟨⟨hsl, hw1, hj1, hj2, hw2⟩, htk, hst⟩
 refine Tr.seq (Tr.seq (Tr.reg0 (cm rfl (cm rfl (co rfl (okb_len rfl Tryz.underlying53 (vl rfl)) (co rfl (ki rfl rfl rfl rfl) (Ch.nil (Fin.go ?_))))))))
 refine Tr.cn rfl ?_ ?_ <;> intro h4 q4
 have hjl : k + j < len := by have := of_decide_eq_true h4; omega
 obtain ⟨u, hu⟩ := at_ (l := l) (k := k + j) (by omega)
 obtain ⟨v, hv⟩ := at_ (l := l) (k := k + j - 1) (by omega)
 have hu2 : st[k + j]? = some u := (hst _ (by omega)).trans hu
 have hv2 : st[k + j - 1]? = some v := (hst _ (by omega)).trans hv
 refine Tr.skip (Fin.go (Tr.seq (Tr.block (Tr.seq (Tr.reg1 mixed (by kernel_rfl) (cm rfl (cm rfl (co rfl (okp_indexSl rfl Tryz.underlying53 sz9 (vl rfl) (vl rfl) (by omega) (by omega)) (co rfl (ok_rd 0 rfl (rd_load1 rfl one9 (vl rfl) (cell1_off (g := fun t : List UInt8 => str t) (k := k + j) (by omega) hu2))) (cm rfl (cm rfl (csu rfl rfl rfl rfl (by omega) (co rfl (okp_indexSl rfl Tryz.underlying53 sz9 (vl rfl) (vl rfl) (by omega) (by omega)) ?_)))))))))))))
 refine co rfl (ok_rd 0 rfl (rd_load1 rfl one9 (vl rfl) (cell1_off (g := fun t : List UInt8 => str t) (k := k + j - 1) (by omega) hv2))) (co rfl (ok_nes rfl (vl rfl) (vl rfl)) (Ch.nil (Fin.go (wk5 0 3 4 5 44 rfl ?_))))
 refine Tr.cn rfl ?_ ?_ <;> intro h5 q5
 refine Tr.seq (Tr.regT ?_)
 iterate 4 refine tm rfl ?_
 refine tp rfl (okp_indexSl rfl Tryz.underlying53 sz9 (vl rfl) (vl rfl) (by omega) (by omega)) (TO.rd 0 rfl rfl rfl (by decide) (rd_load1 rfl one9 (vl rfl) (cell1_off (g := fun t : List UInt8 => str t) (k := k + j) (by omega) hu2)) (tp rfl (okp_indexSl rfl Tryz.underlying53 sz9 (vl rfl) (vl rfl) (by omega) (by omega)) ?_))
 refine TO.ef0 0 rfl rfl (ef_store rfl rfl (vl rfl) (VL.le (vl rfl) (one_cellsP _)) sz9 rfl (by rw [cells_len (sz := 1) (fun _ => rfl)]; omega) (cells_setN (f := (fun t : List UInt8 => [str t])) (fun _ => rfl) (by omega))) ?_
 refine TO.nil (Fin.go (Tr.reg0 (cm rfl (cad rfl rfl rfl rfl (by omega) (cm rfl (Ch.nil (Fin.block (Fin.go (wk4 0 3 4 5 rfl (Tr.reg0 (cm rfl (cad rfl rfl rfl rfl (by omega) (cm rfl ?_)))))))))))))
 refine Ch.nil ?_
 exact Fin.famD3V0 (st.set w u) (w + 1) (j + 1)  (⟨⟨⟨by rw [List.length_set]; exact hsl, by omega, by omega, by omega, by omega⟩, by rw [set_take (by omega), htk]; exact (ddL_ne (j := k + j) (by omega) hu hv (fun e => absurd (Iff.rfl.1 e) (by assumption))).symm, fun i hi => by rw [List.getElem?_set_ne (by omega)]; exact hst i (by omega)⟩, by omega⟩) ⟨⟨_, rfl, int_succ w⟩, ⟨_, rfl, int_succ j⟩, ke rfl, ke rfl, trivial⟩ (fun _ _ h => h)
 refine Tr.skip (Fin.block (Fin.go (Tr.reg0 (cm rfl (cad rfl rfl rfl rfl (by omega) (cm rfl (Ch.nil (Fin.famD3V0 (st) (w) (j + 1)  (⟨⟨⟨hsl, by omega, by omega, by omega, by omega⟩, htk.trans (ddL_same (j := k + j) (by omega) hu hv (Iff.rfl.2 (by assumption))).symm, fun i hi => hst i (by omega)⟩, by omega⟩) ⟨ke rfl, ⟨_, rfl, int_succ j⟩, ke rfl, ke rfl, trivial⟩ (fun _ _ h => h)))))))))
 have hje : k + j = len := by have := of_decide_eq_false h4; omega
 have hE : st.take w = ddL l := by rw [htk, hje, ← hln, List.take_length]
 have hW : (ddL l).length = w := by rw [← hE, List.length_take]; omega
 refine Tr.exit (Fin.then_exit (Fin.then_exit (Fin.block_here (Fin.go (Tr.seq (Tr.regT (tm rfl (tm rfl (tp rfl (okb_sliceFrom rfl Tryz.underlying53 sz9 (vl rfl) (vl rfl) (by omega) (by omega) (by omega)) ?_)))))))))
 refine TO.ef0 0 rfl rfl (ef_clear rfl rfl Tryz.underlying53 sz9 z9 rfl (by decide) (by decide) (vl rfl) (by omega) (by rw [cells_len (sz := 1) (fun _ => rfl)]; omega) (cells_clearR (f := (fun t : List UInt8 => [str t])) (sz := 1) (l := st) (i := w) (fun _ => rfl) rfl (by omega) (by omega))) ?_
 refine TO.nil (Fin.go (Tr.seq (Tr.reg0 (cm rfl (cm rfl (co rfl (okb_sliceTo rfl Tryz.underlying53 sz9 (vl rfl) (vl rfl) (by omega) (by omega) (by omega) (by omega)) (cm rfl (Ch.nil (Fin.go (wk1 2 rfl (Tr.ret (Fin.block_ret (Fin.then_ret (Fin.then_ret ?_))))))))))))))
 refine Fin.block_ret (Fin.then_ret (Fin.retM1 rfl rfl ?_ (fun _ _ _ _ => by rw [hW, ← hE, hln, ← hsl, List.append_assoc])))
 · refine Pr.le_of_eq ?_; rw [hW, Int.toNat_natCast]
 refine Tr.skip (Fin.block (Fin.go (Tr.reg0 (cm rfl (cad rfl rfl rfl rfl (by omega) (cm rfl (Ch.nil ?_)))))))
 exact Fin.famD1V0 (k + 1)  (⟨⟨⟨by omega, by omega⟩, by rw [ddL_ne (by omega) hx hp (fun e => absurd (Iff.rfl.1 e) (by assumption)), hdd, List.take_add_one, hx]; rfl⟩, by omega⟩) ⟨⟨_, rfl, int_succ k⟩, ke rfl, trivial⟩ (fun _ _ h => h)
 have hke : k = len := by have := of_decide_eq_false h2; omega
 refine Tr.exit (Fin.then_exit (Fin.then_exit (Fin.block_here (Fin.go (Tr.seq (Tr.reg0 (cm rfl (cm rfl (Ch.nil (Fin.go (Tr.ret ?_)))))))))))
 refine Fin.retM1 rfl rfl ?_ (fun _ _ _ _ => by rw [show ddL l = l by rw [hke, ← hln, List.take_length] at hdd; exact hdd, Nat.sub_self]; rfl)
 · refine Pr.le_of_eq ?_; rw [show ddL l = l by rw [hke, ← hln, List.take_length] at hdd; exact hdd, hln]
set_option maxRecDepth 20000 in
theorem w_growOs {n : Nat} (h0 : 0 < n) (hn : n ≤ 100000) : FunM Tryz.prog 210 [is (.slice none 0 0), int ((n : Nat) : Int)] (lens 0) (noRes) (fun v => ownRes 9 1 [] v) := by
 refine FunM.of Tryz.func210 rfl rfl (by exact Nat.le_of_ble_eq_true rfl) fun M0 w0 S rs M1 w1 => ?_
 refine Tr.seq (Tr.reg0 (cm rfl (Ch.nil (Fin.go (Tr.seq (Tr.seq (Tr.reg0 (cm rfl (co rfl (ki rfl rfl rfl rfl) (Ch.nil (Fin.go ?_)))))))))))
 refine Tr.cn rfl ?_ ?_ <;> intro h1 q1
 exfalso; omega
 refine Tr.skip (Fin.go (Tr.seq (Tr.seq (Tr.reg0 (cm rfl (cm rfl (co rfl (ok_capnil rfl Tryz.underlying53 (vl rfl)) (cm rfl (co rfl (ok_lennil rfl Tryz.underlying53 (vl rfl)) (csu rfl rfl rfl rfl (by omega) (csu rfl rfl rfl rfl (by omega) (cm rfl (Ch.nil (Fin.go ?_))))))))))))))
 refine Tr.seq (Tr.reg0 (cm rfl (co rfl (ki rfl rfl rfl rfl) (Ch.nil (Fin.go ?_)))))
 refine Tr.cn rfl ?_ ?_ <;> intro h2 q2
 refine Tr.regT (tm rfl (tm rfl (tp rfl (ok_capnil rfl Tryz.underlying53 (vl rfl)) (tp rfl (ok_slicenil rfl Tryz.underlying53 sz9 (vl rfl) (vl rfl)) (tm rfl (TO.pad ?_))))))
 refine TO.efs 0 rfl rfl (by decide) (ef_appzero rfl rfl (by decide) rfl Tryz.underlying53 Tryz.underlying3 sz9 by9 z9 rfl (by decide) (by decide) (vl rfl) (vl rfl) (m := n) (by omega) h0 (by unfold maxLen; omega) (by omega)) (fun v1 => ?_)
 refine TO.openZ 0 22 rfl rfl (fun b1 cap1 sp1 hg1 hm1 hs1 => ?_)
 refine tm rfl (tp rfl (ok_lennil rfl Tryz.underlying53 (vl rfl)) (tp rfl (okb_sliceTo rfl Tryz.underlying53 sz9 (vl rfl) (vl rfl) (by omega) (by omega) (by omega) (by omega)) (tm rfl (TO.nil (Fin.go (wk1 0 rfl (Tr.seq (Tr.reg0 (cm rfl (cm rfl (Ch.nil (Fin.go (Tr.ret ?_)))))))))))))
 refine Fin.closeG (sz := 1) (rows := ([] : List (List Pr))) (m := 0) (sp := sp1) 0 rfl rfl (Nat.zero_le _) hm1 (by rw [hs1]; rfl) ?_
 refine Fin.drop 1 ?_
 refine Fin.retM1 rfl rfl ?_ (by rintro _ _ _ rfl; rfl)
 · rintro _ _ _ rfl; exact ⟨_, _, rfl⟩
 exfalso; omega
set_option maxRecDepth 20000 in
theorem w_concatOs {ss : List (List (List UInt8))} (h0 : 0 < ss.flatten.length) (hn : ss.flatten.length ≤ 100000) : FunM Tryz.prog 161 [slice 1 (ss.map fun a => [slice 1 (a.map (fun t : List UInt8 => [str t]))])] (lens (ss.flatten.map (fun t : List UInt8 => [str t])).length) (noRes) (fun v => mutRes 9 1 (ss.flatten.map (fun t : List UInt8 => [str t])) v) := by
 refine FunM.of Tryz.func161 rfl rfl (by exact Nat.le_of_ble_eq_true rfl) fun M0 w0 S rs M1 w1 => ?_
 refine Tr.lenm 0 rfl fun hlm_0 => (Tr.seq (Tr.reg0 (cm rfl (Ch.nil (Fin.go (Tr.seq (Tr.reg0 (cm rfl (Ch.nil (Fin.go (Tr.seq (Tr.seq (Tr.reg0 ?_)))))))))))))
 refine cm rfl (co rfl (ok_lenm rfl Tryz.underlying174 (vl rfl)) (cm rfl (Ch.nil (Fin.go (Tr.block (Tr.loopw [(0, _), (9, _), (10, _)] (kk3 rfl) (fun k : Nat => [(11, int ((k : Nat) : Int)), (3, int (((ss.take k).flatten.length : Nat) : Int))]) (fun k : Nat => k ≤ (ss).length) (fun k : Nat => (ss).length - k) 0 (Nat.zero_le _) ⟨ke rfl, ⟨_, rfl, int_eq (by simp)⟩, trivial⟩ ?_))))))
 rintro k hle_k
 refine Tr.seq (Tr.reg0 (co rfl (ki rfl rfl rfl rfl) (Ch.nil (Fin.go (Tr.seq ?_)))))
 refine Tr.cn rfl ?_ ?_ <;> intro h1 q1
 have hk_k : k < (ss).length := lt_of_dec h1
 obtain ⟨x, hx_k⟩ := at_ hk_k
 have hft := flat_take hx_k
 have hfl := flat_take_le ss (k + 1)
 rw [hft, List.length_append] at hfl
 refine Tr.skip (Fin.go (Tr.seq (Tr.block (Tr.seq (Tr.reg0 (co rfl (ok_indexAddr rfl Tryz.underlying174 sz53 (vl rfl) (vl rfl) (by omega) (by exact row_at (by assumption))) ?_))))))
 refine co rfl (kl1 rfl one53 rfl) (cm rfl (Ch.nil (Fin.go (Tr.seq (Tr.reg0 (cm rfl (cm rfl (co rfl (ok_lenm rfl Tryz.underlying53 (vl rfl)) (cad rfl rfl rfl rfl (by omega) (cm rfl (Ch.nil (Fin.go (wk5 0 3 9 10 11 rfl (Tr.seq ?_))))))))))))))
 refine Tr.reg0 (cm rfl (co rfl (ki rfl rfl rfl rfl) (Ch.nil (Fin.go ?_))))
 refine Tr.cn rfl ?_ ?_ <;> intro h2 q2
 exfalso; omega
 refine Tr.skip (Fin.block (Fin.go (Tr.reg0 (cad rfl rfl rfl rfl (by omega) (cm rfl (Ch.nil ?_))))))
 exact Fin.fam_same (k + 1) ⟨hk_k, by omega⟩ ⟨⟨_, rfl, int_succ k⟩, ⟨_, rfl, int_eq (by rw [hft, List.length_append]; omega)⟩, ke rfl, ke rfl, ke rfl, trivial⟩
 have he_k : k = (ss).length := by have := ge_of_dec h1; omega
 subst he_k
 rw [List.take_length]
 refine Tr.exit (Fin.then_exit (Fin.then_exit (Fin.block_here (Fin.go (Tr.seq (Tr.regT (tm rfl (TO.pad ?_))))))))
 refine TO.efs 0 rfl rfl (by decide) (ef_call rfl rfl (by decide) rfl (w_growOs (n := ss.flatten.length) h0 hn) ⟨ke rfl, ke rfl, trivial⟩) (fun v1 => ?_)
 refine tm rfl (TO.nil (Fin.go (Tr.seq (Tr.seq (Tr.reg0 (cm rfl (co rfl (ok_lenm rfl Tryz.underlying174 (vl rfl)) (cm rfl (Ch.nil (Fin.go (Tr.block (Tr.loopD1V1 [(25, _), (26, _)] ⟨ke rfl, ke rfl, trivial⟩ (fun (m : Nat) v => [(27, int ((m : Nat) : Int)), (6, andIs v (lens (((ss.take m).flatten.map (fun t : List UInt8 => [str t]))).length))]) (fun (m : Nat) v => Hp M0 w0 S (ownRes 9 1 (((ss.take m).flatten.map (fun t : List UInt8 => [str t]))) v :: noRes :: extRes M1 w1 :: rs)) (fun (m : Nat) => m ≤ ss.length) (fun (m : Nat) => ss.length - m) (0) v1 (Nat.zero_le _) ⟨ke rfl, ⟨_, rfl, lens_le (by rfl)⟩, trivial⟩ (fun _ _ h => h) ?_))))))))))))
 rintro m v hml
 refine Tr.seq (Tr.reg0 (co rfl (ki rfl rfl rfl rfl) (Ch.nil (Fin.go (Tr.seq ?_)))))
 refine Tr.cn rfl ?_ ?_ <;> intro h3 q3
 have hm2 : m < ss.length := lt_of_dec h3
 obtain ⟨x, hx_m⟩ := at_ hm2
 have hft := flat_take hx_m
 have hfl := flat_take_le ss (m + 1)
 rw [hft, List.length_append] at hfl
 refine Tr.skip (Fin.go (Tr.seq (Tr.block (Tr.seq (Tr.reg0 (co rfl (ok_indexAddr rfl Tryz.underlying174 sz53 (vl rfl) (vl rfl) (by omega) (by exact row_at (by assumption))) ?_))))))
 refine co rfl (kl1 rfl one53 rfl) (cm rfl (Ch.nil (Fin.go (Tr.regT (tm rfl (tm rfl ?_))))))
 refine TO.efs 0 rfl rfl (by decide) (ef_appmut0 rfl rfl (by decide) rfl Tryz.underlying53 sz9 by9 z9 rfl (by decide) (by decide) (vl rfl) (vl rfl) (map_rows fun _ => rfl) (by simp only [List.length_map]; unfold maxLen; omega) (by simp only [List.length_map]; omega)) (fun v2 => ?_)
 refine tm rfl (TO.nil (Fin.block (Fin.go (Tr.reg0 (cad rfl rfl rfl rfl (by omega) (cm rfl (Ch.nil ?_)))))))
 exact Fin.famD1V1 (m + 1) v2 (⟨by omega, by omega⟩) ⟨⟨_, rfl, int_succ m⟩, ⟨_, rfl, lens_le (by rw [hft, List.map_append, List.length_append])⟩, ke rfl, ke rfl, trivial⟩ ((by rw [hft, List.map_append]; exact fun _ _ h => h))
 obtain rfl : m = ss.length := (by have := ge_of_dec h3; omega)
 rw [List.take_length]
 refine Tr.exit (Fin.then_exit (Fin.then_exit (Fin.block_here (Fin.go (Tr.seq (Tr.reg0 (cm rfl (cm rfl (Ch.nil (Fin.go (Tr.ret ?_)))))))))))
 refine Fin.toMut 0 rfl (by intro h9; have h10 := congrArg List.length h9; rw [List.length_map, List.length_nil] at h10; omega) ?_
 refine Fin.drop 1 ?_
 refine Fin.retM1 rfl rfl ?_ (by intro _ _ _ h; rw [h.1])
 · exact andIs_le _ _
/-- Ascending, each once. -/
def ascOs (l : List (List UInt8)) : List (List UInt8) := l.foldl (fun acc x => insC Lib.compareBytes acc x) []
theorem ascOs_fold : ∀ (l acc : List (List UInt8)), AscC Lib.compareBytes acc → AscC Lib.compareBytes (l.foldl (fun acc x => insC Lib.compareBytes acc x) acc) ∧ ∀ z, z ∈ l.foldl (fun acc x => insC Lib.compareBytes acc x) acc ↔ z ∈ acc ∨ z ∈ l
  | [], acc, h => ⟨h, fun z => by simp⟩
  | x :: l, acc, h => by
    obtain ⟨h1, h2⟩ := ascOs_fold l (insC Lib.compareBytes acc x) (insC_strict cmp_bytes (fun a b e => (cmp_zero _ _).1 e) h)
    refine ⟨h1, fun z => ?_⟩
    show z ∈ l.foldl _ _ ↔ _
    rw [h2, insC_mem (fun a b e => (cmp_zero _ _).1 e), List.mem_cons, or_assoc]
theorem ascOs_asc (l : List (List UInt8)) : AscC Lib.compareBytes (ascOs l) := (ascOs_fold l [] List.Pairwise.nil).1
theorem ascOs_mem (l : List (List UInt8)) (z : List UInt8) : z ∈ ascOs l ↔ z ∈ l := by rw [ascOs, (ascOs_fold l [] List.Pairwise.nil).2]; simp
theorem dd_ascOs {l st : List (List UInt8)} (hp : st.Perm l) (hs : SortedC Lib.compareBytes st) : ddL st = ascOs l :=
  strict_uniq cmp_bytes (ddL_strict cmp_bytes (fun a b e => (cmp_zero _ _).1 e) hs) (ascOs_asc l) fun x => by rw [mem_ddL, ascOs_mem]; exact hp.mem_iff

set_option maxRecDepth 20000 in
theorem w_sortedOs {ss : List (List (List UInt8))} (h0 : 0 < ss.flatten.length) (hn : ss.flatten.length < 50) : Fun Tryz.prog 107 [slice 1 (ss.map fun a => [slice 1 (a.map (fun t : List UInt8 => [str t]))])] (slice 1 ((ascOs ss.flatten).map (fun t : List UInt8 => [str t]))) := by
 refine Fun.of Tryz.func107 rfl rfl (by exact Nat.le_of_ble_eq_true rfl) fun M0 w0 => ?_
 refine Tr.seq (Tr.reg0 (cm rfl (Ch.nil (Fin.go (Tr.seq (Tr.regT (tm rfl (TO.pad ?_))))))))
 refine TO.efs 0 rfl rfl (by decide) (ef_call rfl rfl (by decide) rfl (w_concatOs h0 (by omega)) ⟨ke rfl, trivial⟩) (fun v1 => ?_)
 refine TO.openM 0 rfl fun b1 cap1 sp1 hv1 hg1 hm1 hs1 => ?_
 subst hv1
 refine tm rfl (TO.nil (Fin.go (Tr.seq (Tr.regT (tm rfl ?_)))))
 refine TO.efc 0 rfl rfl (by decide) (ef_callc rfl rfl (by decide) rfl (w_sortOs (l := ss.flatten) (c := fun p => Lib.compareBytes p.1 p.2) (len := (ss.flatten.map (fun t : List UInt8 => [str t])).length) (sp := sp1) (fun _ _ => rfl) (List.length_map ..).symm cmp_bytes.swo (by rw [List.length_map]; exact hn)) ⟨⟨_, rfl, andIs_is _ _⟩, trivial⟩) ?_
 refine TO.openL 0 rfl fun t1 hp1 => ?_
 have hpl1 := hp1.len
 have hsp := sortL_spec cmp_bytes (by rw [List.length_map] at hp1; exact hp1)
 have hdn := dd_ascOs hsp.1 hsp.2
 refine TO.nil (Fin.go (Tr.seq (Tr.regT (tm rfl ?_))))
 refine TO.efc 0 rfl rfl (by decide) (ef_callc rfl rfl (by decide) rfl (w_compOs (l := t1) (len := (ss.flatten.map (fun t : List UInt8 => [str t])).length) (sp := sp1) (hpl1.trans (List.length_map ..).symm) (by rw [List.length_map]; omega) hg1 hm1) ⟨⟨_, rfl, andIs_is _ _⟩, trivial⟩) ?_
 refine tm rfl (TO.nil (Fin.go (Tr.ret ?_)))
 refine Fin.frzS (sz := 1) ((ddL t1).map (fun t : List UInt8 => [str t])) 0 2 rfl rfl (Pr.le_of_eq (by rw [List.length_map])) (map_rows fun _ => rfl) (by have := ddL_len t1; simp only [List.length_map] at hg1 ⊢; omega) hm1 (by have hdl := ddL_len t1; rw [hpl1] at hdl; simp only [List.length_append, List.length_map, hs1, hpl1]; rw [flat_len (sz := 1) (fun r hr => by rw [List.eq_of_mem_replicate hr]; rfl), List.length_replicate]; simp only [List.length_map] at hg1 ⊢; omega) ?_
 refine Fin.ret1 rfl (OutW.bse _ _) rfl ?_
 · exact Pr.le_trans (andIs_le _ _) (Pr.le_of_eq (by rw [hdn]))
end Go.Proofs.YtgdlhajfajddiaaGreat
namespace Go.Proofs.YtgdlhajfajddiaaGreat
open Go Go.RowKit Cp
end Go.Proofs.YtgdlhajfajddiaaGreat
namespace Go.Proofs.YtgdlhajfajddiaaGreat
open Go Go.RowKit Cp
set_option maxRecDepth 20000 in
theorem w_insNOi {rows : List (List Pr)} {b : Int} (hb : b ≤ 1) : Fun Tryz.prog 230 [slice 1 rows, int 0, int b] (unit_) := by
 refine Fun.of Tryz.func230 rfl rfl (by exact Nat.le_of_ble_eq_true rfl) fun M0 w0 => ?_
 refine Tr.seq (Tr.reg0 (cm rfl (cad rfl rfl rfl rfl (by omega) (cm rfl (Ch.nil (Fin.go (Tr.block (Tr.loopw [(0, _), (1, _), (2, _)] (kk3 rfl) (fun i : Int => [(6, int i)]) (fun i : Int => i = 1) (fun i : Int => 0) 1 (rfl) ⟨ke rfl, trivial⟩ ?_))))))))
 rintro i hi
 refine Tr.seq (Tr.seq (Tr.reg0 (cm rfl (cm rfl (co rfl (ki rfl rfl rfl rfl) (Ch.nil (Fin.go ?_)))))))
 refine Tr.cn rfl ?_ ?_ <;> intro h1 q1
 have := h1
 exfalso; omega
 have := h1
 refine Tr.exit (Fin.then_exit (Fin.then_exit (Fin.block_here (Fin.ret0 rfl))))
set_option maxRecDepth 20000 in
theorem w_pdqNOi {rows : List (List Pr)} {b : Int} (h0 : 0 ≤ b) (hb : b ≤ 1) : Fun Tryz.prog 199 [slice 1 rows, int 0, int b, any] (unit_) := by
 refine Fun.of Tryz.func199 rfl rfl (by exact Nat.le_of_ble_eq_true rfl) fun M0 w0 => ?_
 refine Tr.seq (Tr.reg0 (cm rfl (Ch.nil (Fin.go (Tr.seq (Tr.reg0 (cm rfl (Ch.nil (Fin.go (Tr.block (Tr.loopw [(0, _)] ⟨ke rfl, trivial⟩ (fun (u : Unit) => [(1, int 0), (2, int b)]) (fun (u : Unit) => True) (fun (u : Unit) => 0) () (trivial) ⟨ke rfl, ke rfl, trivial⟩ ?_)))))))))))
 rintro u _
 refine Tr.block (Tr.seq (Tr.reg0 (cm rfl (cm rfl (csu rfl rfl rfl rfl (by omega) (cm rfl (Ch.nil (Fin.go (Tr.seq (Tr.seq (Tr.reg0 (cm rfl (co rfl (ki rfl rfl rfl rfl) ?_)))))))))))))
 refine Ch.nil (Fin.go ?_)
 refine Tr.cn rfl ?_ ?_ <;> intro h1 q1
 refine Tr.seq (Tr.reg0 (cm rfl (cm rfl (cm rfl (co rfl (ok_call rfl (w_insNOi (by omega)) ⟨ke rfl, ke rfl, ke rfl, trivial⟩) (Ch.nil (Fin.go (Tr.ret (Fin.then_ret (Fin.block_ret (Fin.then_ret (Fin.block_ret (Fin.ret0r rfl)))))))))))))
 exfalso; omega
set_option maxRecDepth 20000 in
theorem w_SortNOi {rows : List (List Pr)} (hs : rows.length ≤ 1) : Fun Tryz.prog 149 [slice 1 rows] (unit_) := by
 refine Fun.of Tryz.func149 rfl rfl (by exact Nat.le_of_ble_eq_true rfl) fun M0 w0 => ?_
 have hw : IntKind.u64.wrap ((rows.length : Nat) : Int) = rows.length := IntWalk.u64_in _ ⟨by omega, by omega⟩
 refine Tr.seq (Tr.reg0 (cm rfl (co rfl (ok_len rfl Tryz.underlying22 (vl rfl)) (cm rfl (Ch.nil (Fin.go (Tr.reg0 (cm rfl (cm rfl (cm rfl (co rfl (ok_conv rfl Tryz.underlying3 Tryz.underlying150 (vl rfl)) (co rfl (ok_call rfl (w_BLenx (by omega) (by omega)) ⟨ke rfl, trivial⟩) (co rfl (ok_call rfl (w_pdqNOi (rows := rows) (b := (rows.length : Int)) (by omega) (by omega)) ⟨ke rfl, ke rfl, ke rfl, ⟨_, rfl, le_any _⟩, trivial⟩) ?_)))))))))))))
 refine Ch.nil (Fin.ret0 rfl)
end Go.Proofs.YtgdlhajfajddiaaGreat
namespace Go.Proofs.YtgdlhajfajddiaaGreat
open Go Go.RowKit Cp

noncomputable def hitE (l : List Fnd) (gap : Int) (f : Fnd) (e : Ent) : Bool := (touchR l gap f).1.any fun v => e.num == v
/-- The hosts of the entities that f touches. -/
noncomputable def hostL (l : List Fnd) (gap : Int) (f : Fnd) : List (List UInt8) := ((entR l gap).1.filter (hitE l gap f)).flatMap (·.hosts)
theorem sum_le {R : List Nat} {f g h : Nat → Nat} (hh : ∀ r ∈ R, f r ≤ g r + h r) : (R.map f).sum ≤ (R.map g).sum + (R.map h).sum := by
  induction R with
  | nil => simp
  | cons r R ih =>
    have h1 := hh r (List.mem_cons_self ..)
    have h2 := ih fun q hq => hh q (List.mem_cons_of_mem _ hq)
    rw [List.map_cons, List.map_cons, List.map_cons, List.sum_cons, List.sum_cons, List.sum_cons]; omega
theorem ind_le {r0 : Nat} : ∀ {R : List Nat}, R.Pairwise (· < ·) → (R.map fun r => if r0 = r then 1 else 0).sum ≤ 1 := by
  intro R hp
  by_cases h : r0 ∈ R
  · rw [ind_sum hp h]; exact Nat.le_refl _
  · rw [sum_zero]
    · omega
    · intro x hx
      rw [List.mem_map] at hx
      obtain ⟨s, hs, rfl⟩ := hx
      rw [if_neg (by rintro rfl; exact h hs)]
theorem hosts_sum {l : List Fnd} {root : Nat → Nat} {R : List Nat} (hp : R.Pairwise (· < ·)) : ∀ n, (R.map fun r => (entK l root r n).hosts.length).sum ≤ n
  | 0 => by
    rw [sum_zero]
    · exact Nat.le_refl _
    · intro x hx
      rw [List.mem_map] at hx
      obtain ⟨s, _, rfl⟩ := hx
      rfl
  | n + 1 => by
    have ih := hosts_sum (l := l) (root := root) hp n
    have h1 := ind_le (r0 := root n) hp
    have h2 := sum_le (R := R) (f := fun r => (entK l root r (n + 1)).hosts.length) (g := fun r => (entK l root r n).hosts.length) (h := fun r => if root n = r then 1 else 0) fun r _ => by
      show (entK l root r (n + 1)).hosts.length ≤ (entK l root r n).hosts.length + if root n = r then 1 else 0
      by_cases h : root n = r
      · rw [if_pos h]
        cases hf : l[n]? with
        | none =>
          have : entK l root r (n + 1) = entK l root r n := by simp only [entK, hf]
          rw [this]; omega
        | some f => rw [entK_yes hf h]; exact insC_len _ _ _
      · rw [if_neg h, entK_no h]; omega
    omega
theorem flat_part {α β : Type} (q : α → Bool) (h : α → List β) : ∀ E : List α, ((E.filter q).flatMap h).length ≤ (E.map fun e => (h e).length).sum
  | [] => Nat.le_refl _
  | e :: E => by
    have ih := flat_part q h E
    rw [List.map_cons, List.sum_cons]
    by_cases hq : q e = true
    · rw [List.filter_cons_of_pos hq, List.flatMap_cons, List.length_append]; omega
    · rw [List.filter_cons_of_neg hq]; omega
theorem sum_take {α : Type} (h : α → Nat) : ∀ (E : List α) (k : Nat), ((E.take k).map h).sum ≤ (E.map h).sum
  | [], k => by simp
  | e :: E, 0 => by simp
  | e :: E, k + 1 => by
    have := sum_take h E k
    rw [List.take_succ_cons, List.map_cons, List.map_cons, List.sum_cons, List.sum_cons]; omega
theorem hosts_all (l : List Fnd) (gap : Int) : ((entR l gap).1.map fun e => e.hosts.length).sum ≤ l.length := by
  rcases entR_cases l gap with ⟨_, h⟩ | ⟨h, _⟩
  · rw [h]
    show ((entsF l gap).map fun e => e.hosts.length).sum ≤ l.length
    unfold entsF entsK
    rw [List.map_map]
    exact hosts_sum (rootsK_asc _ _) l.length
  · rw [h]; simp
noncomputable def partL (l : List Fnd) (gap : Int) (f : Fnd) (k : Nat) : List (List UInt8) := (((entR l gap).1.take k).filter (hitE l gap f)).flatMap (·.hosts)
theorem partL_len (l : List Fnd) (gap : Int) (f : Fnd) (k : Nat) : (partL l gap f k).length ≤ l.length :=
  Nat.le_trans (flat_part _ _ _) (Nat.le_trans (sum_take _ _ _) (hosts_all l gap))
theorem partL_all (l : List Fnd) (gap : Int) (f : Fnd) : partL l gap f (entR l gap).1.length = hostL l gap f := by unfold partL hostL; rw [List.take_length]
theorem partL_yes {l : List Fnd} {gap : Int} {f : Fnd} {k : Nat} {x : Ent} (hx : (entR l gap).1[k]? = some x) (h : hitE l gap f x = true) : partL l gap f (k + 1) = partL l gap f k ++ x.hosts := by
  unfold partL
  rw [List.take_add_one, hx, List.filter_append, List.flatMap_append]
  congr 1
  show (List.filter _ [x]).flatMap _ = _
  rw [List.filter_cons_of_pos h]; simp
theorem partL_no {l : List Fnd} {gap : Int} {f : Fnd} {k : Nat} {x : Ent} (hx : (entR l gap).1[k]? = some x) (h : hitE l gap f x = false) : partL l gap f (k + 1) = partL l gap f k := by
  unfold partL
  rw [List.take_add_one, hx, List.filter_append, List.flatMap_append]
  show _ ++ (List.filter _ [x]).flatMap _ = _
  rw [List.filter_cons_of_neg (by rw [h]; decide)]; simp
theorem hosts_at {l : List Fnd} {gap : Int} {k : Nat} {x : Ent} (hx : (entR l gap).1[k]? = some x) : x.hosts.length ≤ l.length := by
  have h1 := hosts_all l gap
  have h2 : x.hosts.length ≤ ((entR l gap).1.map fun e => e.hosts.length).sum := by
    have hm := List.mem_of_getElem? hx
    generalize (entR l gap).1 = E at hm
    induction E with
    | nil => simp at hm
    | cons e E ih =>
      rw [List.map_cons, List.sum_cons]
      rcases List.mem_cons.1 hm with rfl | hm
      · omega
      · have := ih hm; omega
  omega
theorem ent_host {l : List Fnd} {root : Nat → Nat} {r j : Nat} {g : Fnd} (hg : l[j]? = some g) (hr : root j = r) : ∀ n, j < n → n ≤ l.length → g.host ∈ (entK l root r n).hosts
  | 0, h, _ => absurd h (Nat.not_lt_zero _)
  | n + 1, h, hn => by
    obtain ⟨f, hf⟩ := at_ (l := l) (k := n) (by omega)
    rcases Nat.lt_or_eq_of_le (Nat.le_of_lt_succ h) with h1 | h1
    · have ih := ent_host hg hr n h1 (by omega)
      by_cases h2 : root n = r
      · rw [entK_yes hf h2]; exact (insC_mem (fun a b e => (cmp_zero a b).1 e)).2 (.inl ih)
      · rw [entK_no h2]; exact ih
    · subst h1
      rw [hg] at hf; cases hf
      rw [entK_yes hg hr]; exact (insC_mem (fun a b e => (cmp_zero a b).1 e)).2 (.inr rfl)
noncomputable def rhR (l : List Fnd) (gap : Int) (f : Fnd) : List (List UInt8) × Int := if (touchR l gap f).2 = 0 then (hostL l gap f, 0) else ([], (touchR l gap f).2)
theorem touch_ok {l : List Fnd} {gap : Int} {f : Fnd} (hN : NormP l) (hg : 0 ≤ gap ∧ gap ≤ 4000) (hc : checkF f = true) : touchR l gap f = (withE l (entsF l gap) (touchP f), 0) := by
  unfold touchR
  rw [entR_ok hN hg]
  rw [if_pos rfl, if_pos hc]
theorem touch_bad {l : List Fnd} {gap : Int} {f : Fnd} (hN : NormP l) (hg : gap < 0 ∨ 4000 < gap) : touchR l gap f = ([], 2) := by
  unfold touchR
  rw [entR_gap hN hg]
  exact if_neg (by decide)
theorem rh_ok {l : List Fnd} {gap : Int} {f : Fnd} (hN : NormP l) (hg : 0 ≤ gap ∧ gap ≤ 4000) (hc : checkF f = true) : rhR l gap f = (hostL l gap f, 0) := by unfold rhR; rw [touch_ok hN hg hc]; exact if_pos rfl
theorem rh_bad {l : List Fnd} {gap : Int} {f : Fnd} (hN : NormP l) (hg : gap < 0 ∨ 4000 < gap) : rhR l gap f = ([], 2) := by unfold rhR; rw [touch_bad hN hg]; exact if_neg (by decide)
/-- The host of what f touches is among them. -/
theorem host_in {l : List Fnd} {gap : Int} {f g : Fnd} (hN : NormP l) (hg : 0 ≤ gap ∧ gap ≤ 4000) (hc : checkF f = true) (hm : g ∈ l) (ht : touchP f g = true) : g.host ∈ hostL l gap f := by
  obtain ⟨j, hj⟩ := List.mem_iff_getElem?.1 hm
  have hjl := lt_of_atX hj
  have he : entK l (rootS l gap) (rootS l gap j) l.length ∈ entsF l gap := by
    unfold entsF entsK
    refine List.mem_map.2 ⟨rootS l gap j, ?_, rfl⟩
    unfold rootsK
    rw [List.mem_filter, List.mem_range]
    exact ⟨by have := rootS_le l gap j; omega, by simpa using rootS_idem hjl⟩
  unfold hostL
  rw [List.mem_flatMap]
  refine ⟨_, List.mem_filter.2 ⟨by rw [entR_ok hN hg]; exact he, ?_⟩, ent_host hj rfl l.length hjl (Nat.le_refl _)⟩
  unfold hitE
  rw [touch_ok hN hg hc, List.any_eq_true]
  refine ⟨(entK l (rootS l gap) (rootS l gap j) l.length).num, ?_, by simp⟩
  unfold withE
  refine List.mem_map.2 ⟨_, List.mem_filter.2 ⟨he, ?_⟩, rfl⟩
  rw [List.any_eq_true]
  exact ⟨(j : Nat), (fnds_mem (Nat.le_refl _)).2 ⟨j, hjl, rfl, rfl⟩, by rw [hit_at (f := g) (by rw [Int.toNat_natCast]; exact hj)]; exact ht⟩
/-- The hosts before and after, and that of f. -/
noncomputable def reH (l : List Fnd) (gap : Int) (f : Fnd) : List (List UInt8) := ascOs (hostL l gap f ++ (hostL (normL (l ++ [f])) gap f ++ [f.host]))

end Go.Proofs.YtgdlhajfajddiaaGreat
namespace Go.Proofs.YtgdlhajfajddiaaGreat
open Go Go.RowKit Cp
set_option maxRecDepth 20000 in
theorem w_rhosts {l : List Fnd} {gap : Int} {f : Fnd} (hf : ∀ f ∈ l, f.fits) (hff : f.fits) (hl : l.length ≤ 1000) : Fun Tryz.prog 106 [fnds l, int gap, agg (rowF f)] (tup [strs (rhR l gap f).1, int (rhR l gap f).2]) := by
 refine Fun.of Tryz.func106 rfl rfl (by exact Nat.le_of_ble_eq_true rfl) fun M0 w0 => ?_
 refine Tr.seq (Tr.reg0 (co rfl (ok_box rfl (VL.le (vl rfl) (agg_cellsP _))) (cm rfl (cm rfl (Ch.nil (Fin.go (Tr.seq (Tr.reg0 (cm rfl (cm rfl (co rfl (ok_loadA rfl agg26 sz26 (vl rfl) rfl rfl) (co rfl (ok_call rfl (w_ITouched (by assumption) (by assumption)) ⟨ke rfl, ke rfl, ke rfl, trivial⟩) (cm rfl ?_)))))))))))))
 refine co rfl (ok_extract rfl (vl rfl) rfl) (co rfl (ok_extract rfl (vl rfl) rfl) (cm rfl (cm rfl (Ch.nil (Fin.go (Tr.seq (Tr.seq (Tr.reg0 (cm rfl (co rfl (ki rfl rfl rfl rfl) (Ch.nil (Fin.go (wk5 0 1 8 9 23 rfl ?_)))))))))))))
 refine Tr.cn rfl ?_ ?_ <;> intro h1 q1
 have hE0 : ¬ (touchR l gap f).2 = 0 := q1
 have hR : rhR l gap f = ([], (touchR l gap f).2) := if_neg hE0
 refine Tr.seq (Tr.reg0 (cm rfl (cm rfl (cm rfl (Ch.nil (Fin.go (Tr.ret (Fin.then_ret (Fin.ret2 rfl (OutW.bse _ _) rfl ?_ rfl ?_)))))))))
 · rw [hR]; exact nil_slice 1
 · rw [hR]; exact Pr.le_refl _
 have hE0 : (touchR l gap f).2 = 0 := q1
 have hR : rhR l gap f = (hostL l gap f, 0) := if_pos hE0
 refine Tr.skip (Fin.go (Tr.seq (Tr.reg0 (cm rfl (cm rfl (co rfl (ok_call rfl (w_IEntities (by assumption)) ⟨ke rfl, ke rfl, trivial⟩) (cm rfl (co rfl (ok_extract rfl (vl rfl) rfl) (co rfl (ok_extract rfl (vl rfl) rfl) (cm rfl (cm rfl (Ch.nil (Fin.go (Tr.seq ?_))))))))))))))
 refine Tr.reg0 (cm rfl (Ch.nil (Fin.go (wk3 8 10 12 rfl (Tr.seq (Tr.seq (Tr.reg0 (cm rfl (co rfl (ok_lenm rfl Tryz.underlying35 (vl rfl)) (cm rfl (Ch.nil (Fin.go (Tr.block (Tr.addnil 9 1 ?_))))))))))))))
 refine Tr.loopV1 [(8, _), (31, _), (32, _)] ⟨ke rfl, ke rfl, ke rfl, trivial⟩ (fun k v => [(33, int ((k : Nat) : Int)), (12, andIs v (strs (partL l gap f k)))]) (fun k v => Hp M0 w0 noS ([appRes 9 1 v])) (fun k : Nat => k ≤ ((entR l gap).1).length) (fun k : Nat => ((entR l gap).1).length - k) 0 (.slice none 0 0) (Nat.zero_le _) ⟨ke rfl, ⟨_, rfl, own_nil rfl⟩, trivial⟩ (fun _ _ h => h) ?_
 rintro k v hle_k
 refine Tr.seq (Tr.reg0 (co rfl (ki rfl rfl rfl rfl) (Ch.nil (Fin.go (Tr.seq ?_)))))
 refine Tr.cn rfl ?_ ?_ <;> intro h2 q2
 have hk_k : k < ((entR l gap).1).length := lt_of_dec h2
 obtain ⟨x, hx_k⟩ := at_ hk_k
 have hel := ents_lenF l gap
 have hpl := partL_len l gap f k
 have hxl := hosts_at hx_k
 refine Tr.skip (Fin.go (Tr.seq (Tr.block (Tr.seq (Tr.regT (tp rfl (ok_indexAddr rfl Tryz.underlying35 sz55 (vl rfl) (vl rfl) (by omega) (by exact row_at (by assumption))) ?_))))))
 refine tp rfl (ok_loadA rfl agg55 sz55 (vl rfl) rfl rfl) ?_
 refine TO.alloc rfl rfl (by decide) rfl z55 zo55 (fun b1 => ?_)
 refine TO.store_all 0 rfl rfl rfl (vl rfl) (VL.le (vl rfl) (agg_cellsP _)) rfl sz55 rfl rfl (TO.freeze 0 14 rfl rfl (TO.nil (Fin.go (Tr.seq (Tr.reg0 (cm rfl (co rfl (kfa rfl fo55_0 rfl rfl) (co rfl (kl1 rfl one3 rfl) (co rfl (ok_call rfl (w_ContainsI) ⟨ke rfl, ke rfl, trivial⟩) (Ch.nil (Fin.go (wk7 8 12 14 31 32 33 40 rfl ?_))))))))))))
 refine Tr.cn rfl ?_ ?_ <;> intro h3 q3
 have hst := partL_yes (f := f) hx_k h3
 refine Tr.regT (tm rfl (tp rfl (kfa rfl fo55_1 rfl rfl) (tp rfl (kl1 rfl one53 rfl) ?_)))
 refine TO.efs 0 rfl rfl (by decide) (ef_append rfl rfl (by decide) rfl Tryz.underlying53 sz9 by9 z9 rfl (by decide) ⟨_, rfl, andIs_le _ _⟩ (vl rfl) (by simp only [List.length_map, List.length_append, List.length_cons, List.length_nil]; unfold maxLen; omega) (by simp only [List.length_map, List.length_append, List.length_cons, List.length_nil]; omega) (appR_is (by exact List.Mem.head _) ⟨_, rfl, andIs_is _ _⟩)) (fun v1 => ?_)
 refine tm rfl (TO.nil (Fin.block (Fin.go (Tr.reg0 (cad rfl rfl rfl rfl (by omega) (cm rfl (Ch.nil (Fin.famV1 (k + 1) v1 (⟨hk_k, by omega⟩) ⟨⟨_, rfl, int_succ k⟩, ⟨_, rfl, own_le (by rw [hst, List.map_append])⟩, ke rfl, ke rfl, ke rfl, trivial⟩ (fun _ _ h => h)))))))))
 have hst := partL_no (f := f) hx_k h3
 refine Tr.skip (Fin.block (Fin.go (Tr.reg0 (cad rfl rfl rfl rfl (by omega) (cm rfl (Ch.nil (Fin.famV1 (k + 1) v (⟨hk_k, by omega⟩) ⟨⟨_, rfl, int_succ k⟩, ⟨_, rfl, own_le (by rw [hst])⟩, ke rfl, ke rfl, ke rfl, trivial⟩ (fun _ _ h => h))))))))
 have he_k : k = ((entR l gap).1).length := by have := ge_of_dec h2; omega
 subst he_k
 rw [partL_all]
 refine Tr.exit (Fin.then_exit (Fin.then_exit (Fin.block_here (Fin.go (Tr.seq (Tr.reg0 (cm rfl (cm rfl (cm rfl (Ch.nil (Fin.go (Tr.ret (Fin.ret2 rfl (OutW.bse _ _) rfl ?_ rfl ?_)))))))))))))
 · rw [hR]; exact andIs_le _ _
 · rw [hR]; exact Pr.le_refl _
set_option maxRecDepth 20000 in
theorem w_EqualSame {l : List Fnd}  : Fun Tryz.prog 105 [fnds l, fnds l] (bool true) := by
 refine Fun.of Tryz.func105 rfl rfl (by exact Nat.le_of_ble_eq_true rfl) fun M0 w0 => ?_
 refine Tr.lenm 0 rfl fun hlm_0 => (Tr.seq (Tr.reg0 (cm rfl (Ch.nil (Fin.go (Tr.seq (Tr.seq (Tr.reg0 (cm rfl (co rfl (ok_lenm rfl Tryz.underlying31 (vl rfl)) (cm rfl (co rfl (ok_lenm rfl Tryz.underlying31 (vl rfl)) (co rfl (ki rfl rfl rfl rfl) ?_)))))))))))))
 refine Ch.nil (Fin.go ?_)
 refine Tr.cn rfl ?_ ?_ <;> intro h1 q1
 exfalso; simp at h1
 refine Tr.skip (Fin.go (Tr.seq (Tr.seq (Tr.reg0 (cm rfl (co rfl (ok_lenm rfl Tryz.underlying31 (vl rfl)) (cm rfl (Ch.nil (Fin.go (Tr.block (Tr.loopw [(0, _), (1, _), (12, _)] (kk3 rfl) (fun k : Nat => [(13, int ((k : Nat) : Int))]) (fun k : Nat => k ≤ (l).length) (fun k : Nat => (l).length - k) 0 (Nat.zero_le _) ⟨ke rfl, trivial⟩ ?_)))))))))))
 rintro k hle_k
 refine Tr.seq (Tr.reg0 (co rfl (ki rfl rfl rfl rfl) (Ch.nil (Fin.go (Tr.seq ?_)))))
 refine Tr.cn rfl ?_ ?_ <;> intro h2 q2
 have hk_k : k < (l).length := lt_of_dec h2
 obtain ⟨x, hx_k⟩ := at_ hk_k
 refine Tr.skip (Fin.go (Tr.seq (Tr.block (Tr.seq (Tr.reg0 (cm rfl (cm rfl (Ch.nil (Fin.go (Tr.seq (Tr.reg1 mixed (by kernel_rfl) (cm rfl (cm rfl ?_)))))))))))))
 refine co rfl (ok_indexAddr rfl Tryz.underlying31 sz26 (vl rfl) (vl rfl) (by omega) (by exact row_at (by assumption))) ?_
 refine co rfl (ok_loadA rfl agg26 sz26 (vl rfl) rfl rfl) (cm rfl (cm rfl (co rfl (ok_indexAddr rfl Tryz.underlying31 sz26 (vl rfl) (vl rfl) (by omega) (by exact row_at (by assumption))) ?_)))
 refine co rfl (ok_loadA rfl agg26 sz26 (vl rfl) rfl rfl) (co rfl (ok_ne26 rfl (vl rfl) (vl rfl)) (Ch.nil (Fin.go (wk5 0 1 12 13 24 rfl ?_))))
 refine Tr.cn rfl ?_ ?_ <;> intro h3 q3
 exfalso; simp at h3
 refine Tr.skip (Fin.block (Fin.go (Tr.reg0 (cad rfl rfl rfl rfl (by omega) (cm rfl (Ch.nil (Fin.fam_same (k + 1) ⟨hk_k, by omega⟩ ⟨⟨_, rfl, int_succ k⟩, ke rfl, ke rfl, ke rfl, trivial⟩)))))))
 have he_k : k = (l).length := by have := ge_of_dec h2; omega
 refine Tr.exit (Fin.then_exit (Fin.then_exit (Fin.block_here (Fin.go (Tr.seq (Tr.reg0 (cm rfl (Ch.nil (Fin.go (Tr.ret (Fin.ret1 rfl (OutW.bse _ _) rfl ?_)))))))))))
 · exact Pr.le_refl _
theorem w_rhOK {l : List Fnd} {gap : Int} {f : Fnd} (hN : NormP l) (hf : ∀ f ∈ l, f.fits) (hff : f.fits) (hc : checkF f = true) (hl : l.length ≤ 1000) (hg : 0 ≤ gap ∧ gap ≤ 4000) : Fun Tryz.prog 106 [fnds l, int gap, agg (rowF f)] (tup [strs (hostL l gap f), int 0]) := by
  have := w_rhosts (l := l) (gap := gap) (f := f) hf hff hl; rwa [rh_ok hN hg hc] at this
theorem w_rhBad {l : List Fnd} {gap : Int} {f : Fnd} (hN : NormP l) (hf : ∀ f ∈ l, f.fits) (hff : f.fits) (hl : l.length ≤ 1000) (hg : gap < 0) : Fun Tryz.prog 106 [fnds l, int gap, agg (rowF f)] (tup [strs [], int 2]) := by
  have := w_rhosts (l := l) (gap := gap) (f := f) hf hff hl; rwa [rh_bad hN (.inl hg)] at this


theorem reH_len {l : List Fnd} {gap : Int} {f : Fnd} (h : l.length ≤ 20) : ([hostL l gap f, hostL (normL (l ++ [f])) gap f, [f.host]].flatten).length < 50 ∧ 0 < ([hostL l gap f, hostL (normL (l ++ [f])) gap f, [f.host]].flatten).length := by
  have h1 := partL_len l gap f (entR l gap).1.length
  rw [partL_all] at h1
  have h2 := partL_len (normL (l ++ [f])) gap f (entR (normL (l ++ [f])) gap).1.length
  rw [partL_all] at h2
  have h3 := norm_len (l ++ [f])
  rw [List.length_append, List.length_singleton] at h3
  simp only [List.flatten_cons, List.flatten_nil, List.append_nil, List.length_append, List.length_singleton]
  omega
theorem reH_eq (l : List Fnd) (gap : Int) (f : Fnd) : ascOs ([hostL l gap f, hostL (normL (l ++ [f])) gap f, [f.host]].flatten) = reH l gap f := by unfold reH; simp
theorem all_snoc1 {l : List Fnd} {f : Fnd} {p : Fnd → Prop} (h : ∀ g ∈ l, p g) (hf : p f) : ∀ g ∈ l ++ [f], p g := by
  intro g hg
  rcases List.mem_append.1 hg with h1 | h1
  · exact h g h1
  · rw [List.mem_singleton] at h1; subst h1; exact hf

set_option maxRecDepth 20000 in
theorem w_RHostsOK {l : List Fnd} {gap : Int} {f : Fnd} (hN : NormP l) (hf : ∀ f ∈ l, f.fits) (hff : f.fits) (hc : checkF f = true) (hl : l.length ≤ 20) (hg : 0 ≤ gap ∧ gap ≤ 4000) : Fun Tryz.prog 53 [fnds l, int gap, agg (rowF f)] (tup [strs (reH l gap f), int 0]) := by
 refine Fun.of Tryz.func53 rfl rfl (by exact Nat.le_of_ble_eq_true rfl) fun M0 w0 => ?_
 have hid := norm_id hN.adj
 have hck := all_snoc1 hN.check hc
 have hft := all_snoc1 hf hff
 have hlen : (l ++ [f]).length = l.length + 1 := by simp
 have hNy : NormP (normL (l ++ [f])) := norm_okP hck (by omega)
 have hfy : ∀ g ∈ normL (l ++ [f]), g.fits := fun g hg => hft g (mem_normL.1 hg)
 have hyl := norm_len (l ++ [f])
 have hreh := reH_len (gap := gap) (f := f) hl
 have hcz : (if checkF f then (0 : Int) else 24) = 0 := if_pos hc
 refine Tr.seq (Tr.reg0 (co rfl (ok_box rfl (VL.le (vl rfl) (agg_cellsP _))) (cm rfl (cm rfl (Ch.nil (Fin.go (Tr.seq (Tr.reg0 (cm rfl ?_)))))))))
 refine co rfl (ok_call rfl (w_FNorm (l := l) hN.check hf (by omega)) ⟨ke rfl, trivial⟩) ?_
 refine cm rfl (co rfl (ok_extract rfl (vl rfl) rfl) (co rfl (ok_extract rfl (vl rfl) rfl) (cm rfl (cm rfl (Ch.nil (Fin.go (Tr.seq (Tr.seq (Tr.reg0 (cm rfl (co rfl (ki rfl rfl rfl rfl) (cm rfl ?_))))))))))))
 refine Ch.cs 20 rfl ?_ ?_ <;> intro h1 q1
 exfalso; simp at h1
 refine cym h1 rfl (cym h1 rfl ?_)
 refine cy h1 rfl (ok_call rfl (w_EqualSame (l := l)) ⟨⟨_, rfl, Pr.le_of_eq (by rw [hid])⟩, ke rfl, trivial⟩) ?_
 refine cy h1 rfl (ok_not rfl (vl rfl)) (co rfl (kpf rfl rfl h1 rfl) (cm rfl ?_))
 refine Ch.cs 26 rfl ?_ ?_ <;> intro h2 q2
 exfalso; simp at h2
 refine cy h2 rfl (ok_loadA rfl agg26 sz26 (vl rfl) rfl rfl) (cy h2 rfl (ok_call rfl (w_FCheck (by assumption)) ⟨ke rfl, trivial⟩) (cy h2 rfl (ki rfl rfl rfl rfl) (co rfl (kpf rfl rfl h2 rfl) (Ch.nil (Fin.go (wk4 0 1 5 30 rfl ?_))))))
 refine Tr.cn rfl ?_ ?_ <;> intro h3 q3
 exfalso; simp [hc] at h3
 refine Tr.skip (Fin.go (Tr.seq (Tr.reg0 (cm rfl (cm rfl (co rfl (ok_loadA rfl agg26 sz26 (vl rfl) rfl rfl) ?_))))))
 refine co rfl (ok_call rfl (w_rhOK (l := l) hN hf hff hc (by omega) hg) ⟨ke rfl, ke rfl, ke rfl, trivial⟩) ?_
 refine cm rfl (co rfl (ok_extract rfl (vl rfl) rfl) (co rfl (ok_extract rfl (vl rfl) rfl) (cm rfl (cm rfl (Ch.nil (Fin.go (Tr.seq (Tr.seq (Tr.reg0 (cm rfl (co rfl (ki rfl rfl rfl rfl) (Ch.nil (Fin.go ?_)))))))))))))
 refine wk6 0 1 5 9 10 39 rfl ?_
 refine Tr.cn rfl ?_ ?_ <;> intro h4 q4
 exfalso; simp at h4
 refine Tr.skip (Fin.go (Tr.seq (Tr.reg0 (cm rfl (co rfl (ok_loadA rfl agg26 sz26 (vl rfl) rfl rfl) (co rfl (ok_buildSlice (xs := [.tmp 43]) (rows := [_]) rfl rfl Tryz.underlying31 sz26 z26 rfl (by decide) ⟨⟨(by exact rfl), (VL.le (vl rfl) (agg_cellsP _))⟩, trivial⟩ (by decide)) ?_))))))
 refine co rfl (ok_call rfl (w_FMerge (a := l) (b := [f]) hck hft (by simp) (by omega)) ⟨ke rfl, ⟨_, rfl, full_le _ _⟩, trivial⟩) ?_
 refine cm rfl (co rfl (ok_extract rfl (vl rfl) rfl) (co rfl (ok_extract rfl (vl rfl) rfl) (cm rfl (cm rfl (Ch.nil (Fin.go (wk5 1 5 9 10 11 rfl (Tr.seq (Tr.seq (Tr.reg0 (cm rfl (co rfl (ki rfl rfl rfl rfl) (Ch.nil (Fin.go ?_))))))))))))))
 refine Tr.cn rfl ?_ ?_ <;> intro h5 q5
 exfalso; simp at h5
 refine Tr.skip (Fin.go (Tr.seq (Tr.reg0 (cm rfl (cm rfl (co rfl (ok_loadA rfl agg26 sz26 (vl rfl) rfl rfl) ?_))))))
 refine co rfl (ok_call rfl (w_rhOK (l := normL (l ++ [f])) hNy hfy hff hc (by omega) hg) ⟨ke rfl, ke rfl, ke rfl, trivial⟩) ?_
 refine cm rfl (co rfl (ok_extract rfl (vl rfl) rfl) (co rfl (ok_extract rfl (vl rfl) rfl) (cm rfl (cm rfl (Ch.nil (Fin.go (wk4 5 9 10 12 rfl (Tr.seq (Tr.seq (Tr.reg0 (cm rfl (co rfl (ki rfl rfl rfl rfl) (Ch.nil (Fin.go ?_))))))))))))))
 refine Tr.cn rfl ?_ ?_ <;> intro h6 q6
 exfalso; simp at h6
 refine Tr.skip (Fin.go (Tr.seq (Tr.reg0 (cm rfl (cm rfl (co rfl (kfa rfl fo26_1 rfl rfl) (co rfl (kl1 rfl one9 rfl) (co rfl (ok_buildSlice (xs := [.tmp 64]) (rows := [[_]]) rfl rfl Tryz.underlying53 sz9 z9 rfl (by decide) ⟨⟨(by exact rfl), (VL.le (vl rfl) (one_cellsP _))⟩, trivial⟩ (by decide)) ?_))))))))
 refine co rfl (ok_buildSlice (xs := [.tmp 61, .tmp 62, .tmp 65]) (rows := [[_], [_], [_]]) rfl rfl Tryz.underlying174 sz53 z53 rfl (by decide) ⟨⟨(by exact rfl), (VL.le (vl rfl) (one_cellsP _))⟩, ⟨⟨(by exact rfl), (VL.le (vl rfl) (one_cellsP _))⟩, ⟨⟨(by exact rfl), ⟨_, rfl, Pr.le_trans (full_le _ _) (one_cellsP _)⟩⟩, trivial⟩⟩⟩ (by decide)) ?_
 refine co rfl (ok_call rfl (w_sortedOs (ss := [hostL l gap f, hostL (normL (l ++ [f])) gap f, [f.host]]) hreh.2 hreh.1) ⟨⟨_, rfl, full_le _ _⟩, trivial⟩) ?_
 refine cm rfl (cm rfl (Ch.nil (Fin.go (wk2 6 7 rfl (Tr.ret (Fin.ret2 rfl (OutW.bse _ _) rfl ?_ rfl ?_))))))
 · exact Pr.le_of_eq (by rw [reH_eq])
 · exact Pr.le_refl _
set_option maxRecDepth 20000 in
theorem w_RHostsBad {l : List Fnd} {gap : Int} {f : Fnd} (hN : NormP l) (hf : ∀ f ∈ l, f.fits) (hff : f.fits) (hc : checkF f = true) (hl : l.length ≤ 20) (hg : gap < 0) : Fun Tryz.prog 53 [fnds l, int gap, agg (rowF f)] (tup [strs [], int 2]) := by
 refine Fun.of Tryz.func53 rfl rfl (by exact Nat.le_of_ble_eq_true rfl) fun M0 w0 => ?_
 have hid := norm_id hN.adj
 have hck := all_snoc1 hN.check hc
 have hft := all_snoc1 hf hff
 have hlen : (l ++ [f]).length = l.length + 1 := by simp
 have hNy : NormP (normL (l ++ [f])) := norm_okP hck (by omega)
 have hfy : ∀ g ∈ normL (l ++ [f]), g.fits := fun g hg => hft g (mem_normL.1 hg)
 have hyl := norm_len (l ++ [f])
 have hreh := reH_len (gap := gap) (f := f) hl
 have hcz : (if checkF f then (0 : Int) else 24) = 0 := if_pos hc
 refine Tr.seq (Tr.reg0 (co rfl (ok_box rfl (VL.le (vl rfl) (agg_cellsP _))) (cm rfl (cm rfl (Ch.nil (Fin.go (Tr.seq (Tr.reg0 (cm rfl ?_)))))))))
 refine co rfl (ok_call rfl (w_FNorm (l := l) hN.check hf (by omega)) ⟨ke rfl, trivial⟩) ?_
 refine cm rfl (co rfl (ok_extract rfl (vl rfl) rfl) (co rfl (ok_extract rfl (vl rfl) rfl) (cm rfl (cm rfl (Ch.nil (Fin.go (Tr.seq (Tr.seq (Tr.reg0 (cm rfl (co rfl (ki rfl rfl rfl rfl) (cm rfl ?_))))))))))))
 refine Ch.cs 20 rfl ?_ ?_ <;> intro h1 q1
 exfalso; simp at h1
 refine cym h1 rfl (cym h1 rfl ?_)
 refine cy h1 rfl (ok_call rfl (w_EqualSame (l := l)) ⟨⟨_, rfl, Pr.le_of_eq (by rw [hid])⟩, ke rfl, trivial⟩) ?_
 refine cy h1 rfl (ok_not rfl (vl rfl)) (co rfl (kpf rfl rfl h1 rfl) (cm rfl ?_))
 refine Ch.cs 26 rfl ?_ ?_ <;> intro h2 q2
 exfalso; simp at h2
 refine cy h2 rfl (ok_loadA rfl agg26 sz26 (vl rfl) rfl rfl) (cy h2 rfl (ok_call rfl (w_FCheck (by assumption)) ⟨ke rfl, trivial⟩) (cy h2 rfl (ki rfl rfl rfl rfl) (co rfl (kpf rfl rfl h2 rfl) (Ch.nil (Fin.go (wk4 0 1 5 30 rfl ?_))))))
 refine Tr.cn rfl ?_ ?_ <;> intro h3 q3
 exfalso; simp [hc] at h3
 refine Tr.skip (Fin.go (Tr.seq (Tr.reg0 (cm rfl (cm rfl (co rfl (ok_loadA rfl agg26 sz26 (vl rfl) rfl rfl) ?_))))))
 refine co rfl (ok_call rfl (w_rhBad (l := l) hN hf hff (by omega) hg) ⟨ke rfl, ke rfl, ke rfl, trivial⟩) ?_
 refine cm rfl (co rfl (ok_extract rfl (vl rfl) rfl) (co rfl (ok_extract rfl (vl rfl) rfl) (cm rfl (cm rfl (Ch.nil (Fin.go (Tr.seq (Tr.seq (Tr.reg0 (cm rfl (co rfl (ki rfl rfl rfl rfl) (Ch.nil (Fin.go ?_)))))))))))))
 refine wk6 0 1 5 9 10 39 rfl ?_
 refine Tr.cn rfl ?_ ?_ <;> intro h4 q4
 refine Tr.seq (Tr.reg0 (cm rfl (cm rfl (cm rfl (Ch.nil (Fin.go (Tr.ret (Fin.then_ret (Fin.ret2 rfl (OutW.bse _ _) rfl ?_ rfl ?_)))))))))
 · exact nil_slice 1
 · exact Pr.le_refl _
 exfalso; simp at h4
set_option maxRecDepth 20000 in
theorem w_growI0   : Fun Tryz.prog 241 [is (.slice none 0 0), int 0] (is (.slice none 0 0)) := by
 refine Fun.of Tryz.func241 rfl rfl (by exact Nat.le_of_ble_eq_true rfl) fun M0 w0 => ?_
 refine Tr.seq (Tr.reg0 (cm rfl (Ch.nil (Fin.go (Tr.seq (Tr.seq (Tr.reg0 (cm rfl (co rfl (ki rfl rfl rfl rfl) (Ch.nil (Fin.go ?_)))))))))))
 refine Tr.cn rfl ?_ ?_ <;> intro h1 q1
 exact absurd h1 (by decide)
 refine Tr.skip (Fin.go (Tr.seq (Tr.seq (Tr.reg0 (cm rfl (cm rfl (co rfl (ok_capnil rfl Tryz.underlying22 (vl rfl)) (cm rfl (co rfl (ok_lennil rfl Tryz.underlying22 (vl rfl)) (csu rfl rfl rfl rfl (by omega) (csu rfl rfl rfl rfl (by omega) (cm rfl (Ch.nil (Fin.go ?_))))))))))))))
 refine Tr.seq (Tr.reg0 (cm rfl (co rfl (ki rfl rfl rfl rfl) (Ch.nil (Fin.go ?_)))))
 refine Tr.cn rfl ?_ ?_ <;> intro h2 q2
 exact absurd h2 (by decide)
 refine Tr.skip (Fin.go (Tr.seq (Tr.reg0 (cm rfl (cm rfl (Ch.nil (Fin.go (wk1 4 rfl (Tr.ret (Fin.ret1 rfl (OutW.bse _ _) rfl ?_))))))))))
 · exact Pr.le_refl _
set_option maxRecDepth 20000 in
theorem w_concatI0   : Fun Tryz.prog 209 [slice 1 (([[], []] : List (List Int)).map fun a => [ints a])] (ints []) := by
 refine Fun.of Tryz.func209 rfl rfl (by exact Nat.le_of_ble_eq_true rfl) fun M0 w0 => ?_
 refine Tr.lenm 0 rfl fun hlm_0 => (Tr.seq (Tr.reg0 (cm rfl (Ch.nil (Fin.go (Tr.seq (Tr.reg0 (cm rfl (Ch.nil (Fin.go (Tr.seq (Tr.seq (Tr.reg0 ?_)))))))))))))
 refine cm rfl (co rfl (ok_lenm rfl Tryz.underlying208 (vl rfl)) (cm rfl (Ch.nil (Fin.go (Tr.block (Tr.loopw [(0, _), (9, _), (10, _)] (kk3 rfl) (fun k : Nat => [(11, int ((k : Nat) : Int)), (3, int 0)]) (fun k : Nat => k ≤ (([[], []] : List (List Int))).length) (fun k : Nat => (([[], []] : List (List Int))).length - k) 0 (Nat.zero_le _) ⟨ke rfl, ke rfl, trivial⟩ ?_))))))
 rintro k hle_k
 refine Tr.seq (Tr.reg0 (co rfl (ki rfl rfl rfl rfl) (Ch.nil (Fin.go (Tr.seq ?_)))))
 refine Tr.cn rfl ?_ ?_ <;> intro h1 q1
 have hk_k : k < (([[], []] : List (List Int))).length := lt_of_dec h1
 obtain ⟨x, hx_k⟩ := at_ hk_k
 have hxe : x = [] := by have := List.mem_of_getElem? hx_k; simpa using this
 subst hxe
 refine Tr.skip (Fin.go (Tr.seq (Tr.block (Tr.seq (Tr.reg0 (co rfl (ok_indexAddr rfl Tryz.underlying208 sz22 (vl rfl) (vl rfl) (by omega) (by exact row_at (by assumption))) ?_))))))
 refine co rfl (kl1 rfl one22 rfl) (cm rfl (Ch.nil (Fin.go (Tr.seq (Tr.reg0 (cm rfl (cm rfl (co rfl (ok_lenm rfl Tryz.underlying22 (vl rfl)) (co rfl (ki rfl rfl rfl rfl) (cm rfl (Ch.nil (Fin.go (wk5 0 3 9 10 11 rfl (Tr.seq ?_))))))))))))))
 refine Tr.reg0 (cm rfl (co rfl (ki rfl rfl rfl rfl) (Ch.nil (Fin.go ?_))))
 refine Tr.cn rfl ?_ ?_ <;> intro h2 q2
 exact absurd h2 (by decide)
 refine Tr.skip (Fin.block (Fin.go (Tr.reg0 (cad rfl rfl rfl rfl (by omega) (cm rfl (Ch.nil (Fin.fam_same (k + 1) ⟨hk_k, by omega⟩ ⟨⟨_, rfl, int_succ k⟩, ke rfl, ke rfl, ke rfl, ke rfl, trivial⟩)))))))
 have he_k : k = (([[], []] : List (List Int))).length := by have := ge_of_dec h1; omega
 refine Tr.exit (Fin.then_exit (Fin.then_exit (Fin.block_here (Fin.go (Tr.seq (Tr.reg0 (cm rfl (co rfl (ok_call rfl (w_growI0) ⟨ke rfl, ke rfl, trivial⟩) (cm rfl (Ch.nil (Fin.go (Tr.seq (Tr.seq (Tr.reg0 ?_))))))))))))))
 refine cm rfl (co rfl (ok_lenm rfl Tryz.underlying208 (vl rfl)) (cm rfl (Ch.nil (Fin.go (Tr.block (Tr.addnil 3 1 (Tr.loopV1 [(25, _), (26, _)] ⟨ke rfl, ke rfl, trivial⟩ (fun m v => [(27, int ((m : Nat) : Int)), (6, andIs v (ints []))]) (fun m v => Hp M0 w0 noS ([appRes 3 1 v])) (fun m : Nat => m ≤ (([[], []] : List (List Int))).length) (fun m : Nat => (([[], []] : List (List Int))).length - m) 0 (.slice none 0 0) (Nat.zero_le _) ⟨ke rfl, ⟨_, rfl, own_nil rfl⟩, trivial⟩ (fun _ _ h => h) ?_)))))))
 rintro m v hle_m
 refine Tr.seq (Tr.reg0 (co rfl (ki rfl rfl rfl rfl) (Ch.nil (Fin.go (Tr.seq ?_)))))
 refine Tr.cn rfl ?_ ?_ <;> intro h3 q3
 have hk_m : m < (([[], []] : List (List Int))).length := lt_of_dec h3
 obtain ⟨x, hx_m⟩ := at_ hk_m
 have hxe : x = [] := by have := List.mem_of_getElem? hx_m; simpa using this
 subst hxe
 refine Tr.skip (Fin.go (Tr.seq (Tr.block (Tr.seq (Tr.reg0 (co rfl (ok_indexAddr rfl Tryz.underlying208 sz22 (vl rfl) (vl rfl) (by omega) (by exact row_at (by assumption))) ?_))))))
 refine co rfl (kl1 rfl one22 rfl) (cm rfl (Ch.nil (Fin.go (Tr.regT (tm rfl (tm rfl ?_))))))
 refine TO.efs 0 rfl rfl (by decide) (ef_append rfl rfl (by decide) rfl Tryz.underlying22 sz3 by3 z3 rfl (by decide) ⟨_, rfl, andIs_le _ _⟩ (vl rfl) (by simp only [List.length_map, List.length_append, List.length_cons, List.length_nil]; unfold maxLen; omega) (by simp only [List.length_map, List.length_append, List.length_cons, List.length_nil]; omega) (appR_is (by exact List.Mem.head _) ⟨_, rfl, andIs_is _ _⟩)) (fun v1 => ?_)
 refine tm rfl (TO.nil (Fin.block (Fin.go (Tr.reg0 (cad rfl rfl rfl rfl (by omega) (cm rfl (Ch.nil (Fin.famV1 (m + 1) v1 (⟨hk_m, by omega⟩) ⟨⟨_, rfl, int_succ m⟩, ⟨_, rfl, own_le (by rfl)⟩, ke rfl, ke rfl, trivial⟩ (fun _ _ h => h)))))))))
 have he_m : m = (([[], []] : List (List Int))).length := by have := ge_of_dec h3; omega
 refine Tr.exit (Fin.then_exit (Fin.then_exit (Fin.block_here (Fin.go (Tr.seq (Tr.reg0 (cm rfl (cm rfl (Ch.nil (Fin.go (Tr.ret (Fin.ret1 rfl (OutW.bse _ _) rfl ?_))))))))))))
 · exact andIs_le _ _
set_option maxRecDepth 20000 in
theorem w_compI0   : Fun Tryz.prog 150 [ints []] (ints []) := by
 refine Fun.of Tryz.func150 rfl rfl (by exact Nat.le_of_ble_eq_true rfl) fun M0 w0 => ?_
 refine Tr.seq (Tr.reg0 (cm rfl (Ch.nil (Fin.go (Tr.seq (Tr.seq (Tr.reg0 (cm rfl (co rfl (ok_lenm rfl Tryz.underlying22 (vl rfl)) (co rfl (ki rfl rfl rfl rfl) (Ch.nil (Fin.go ?_))))))))))))
 refine Tr.cn rfl ?_ ?_ <;> intro h1 q1
 refine Tr.seq (Tr.reg0 (cm rfl (cm rfl (Ch.nil (Fin.go (Tr.ret (Fin.then_ret (Fin.ret1 rfl (OutW.bse _ _) rfl ?_))))))))
 · exact Pr.le_refl _
 exfalso; simp at h1
set_option maxRecDepth 20000 in
theorem w_sortedI0   : Fun Tryz.prog 160 [slice 1 (([[], []] : List (List Int)).map fun a => [ints a])] (ints []) := by
 refine Fun.of Tryz.func160 rfl rfl (by exact Nat.le_of_ble_eq_true rfl) fun M0 w0 => ?_
 refine Tr.seq (Tr.reg0 (cm rfl (Ch.nil (Fin.go (Tr.seq (Tr.reg0 (cm rfl (co rfl (ok_call rfl (w_concatI0) ⟨ke rfl, trivial⟩) (cm rfl (Ch.nil (Fin.go (Tr.seq (Tr.reg0 ?_)))))))))))))
 refine cm rfl (co rfl (ok_call rfl (w_SortNOi (rows := []) (by decide)) ⟨ke rfl, trivial⟩) (Ch.nil (Fin.go (Tr.seq (Tr.reg0 (cm rfl (co rfl (ok_call rfl (w_compI0) ⟨ke rfl, trivial⟩) (cm rfl (Ch.nil (Fin.go (Tr.ret (Fin.ret1 rfl (OutW.bse _ _) rfl ?_))))))))))))
 · exact Pr.le_refl _
set_option maxRecDepth 20000 in
theorem w_EqualI0   : Fun Tryz.prog 159 [ints [], ints []] (bool true) := by
 refine Fun.of Tryz.func159 rfl rfl (by exact Nat.le_of_ble_eq_true rfl) fun M0 w0 => ?_
 refine Tr.seq (Tr.reg0 (cm rfl (Ch.nil (Fin.go (Tr.seq (Tr.seq (Tr.reg0 (cm rfl (co rfl (ok_lenm rfl Tryz.underlying22 (vl rfl)) (cm rfl (co rfl (ok_lenm rfl Tryz.underlying22 (vl rfl)) (co rfl (ki rfl rfl rfl rfl) (Ch.nil (Fin.go ?_))))))))))))))
 refine Tr.cn rfl ?_ ?_ <;> intro h1 q1
 exfalso; simp at h1
 refine Tr.skip (Fin.go (Tr.seq (Tr.seq (Tr.reg0 (cm rfl (co rfl (ok_lenm rfl Tryz.underlying22 (vl rfl)) (cm rfl (Ch.nil (Fin.go (Tr.block (Tr.loopw [(0, _), (1, _), (12, _)] (kk3 rfl) (fun (u : Unit) => [(13, int 0)]) (fun (u : Unit) => True) (fun (u : Unit) => 0) () (trivial) ⟨ke rfl, trivial⟩ ?_)))))))))))
 rintro u _
 refine Tr.seq (Tr.reg0 (co rfl (ki rfl rfl rfl rfl) (Ch.nil (Fin.go (Tr.seq ?_)))))
 refine Tr.cn rfl ?_ ?_ <;> intro h2 q2
 exact absurd h2 (by decide)
 have := h2
 refine Tr.exit (Fin.then_exit (Fin.then_exit (Fin.block_here (Fin.go (Tr.seq (Tr.reg0 (cm rfl (Ch.nil (Fin.go (Tr.ret (Fin.ret1 rfl (OutW.bse _ _) rfl ?_)))))))))))
 · exact Pr.le_refl _
end Go.Proofs.YtgdlhajfajddiaaGreat
namespace Go.Proofs.YtgdlhajfajddiaaGreat
open Go Go.RowKit Cp

theorem entK_congr (l : List Fnd) {r1 r2 : Nat → Nat} (r : Nat) : ∀ n, (∀ i, i < n → r1 i = r2 i) → entK l r1 r n = entK l r2 r n
  | 0, _ => rfl
  | n + 1, h => by unfold entK; rw [entK_congr l r n (fun i hi => h i (by omega)), h n (by omega)]
theorem entsK_congr (l : List Fnd) {r1 r2 : Nat → Nat} (n : Nat) (h : ∀ i, i < n → r1 i = r2 i) : entsK l r1 n = entsK l r2 n := by
  unfold entsK
  have e : rootsK r1 n = rootsK r2 n := by
    unfold rootsK
    refine List.filter_congr fun i hi => ?_
    rw [h i (List.mem_range.1 hi)]
  rw [e]
  exact List.map_congr_left fun r _ => entK_congr l r n h
theorem entsF_RR (l : List Fnd) (gap : Int) : entsF l gap = entsK l (RR l gap l.length) l.length := entsK_congr l l.length fun i hi => (RR_eq hi).symm
end Go.Proofs.YtgdlhajfajddiaaGreat
namespace Go.Proofs.YtgdlhajfajddiaaGreat
open Go Go.RowKit Cp Go.ChangeShapes Go.WideShapes Go.ChangeAt

theorem own0 : ownKnob Tryz.prog.godebug = none := by kernel_rfl
theorem laidOut0 : laidOutB Tryz.prog = true := by kernel_rfl
theorem u8_in {n : Int} (h : (Lit.int .u8 n).wf = true) : 0 ≤ n ∧ n < 256 := by
  simp only [Lit.wf, Bool.and_eq_true, decide_eq_true_eq] at h
  have h1 : IntKind.u8.min = 0 := rfl
  have h2 : IntKind.u8.max = 255 := rfl
  omega
theorem i64_in {n : Int} (h : (Lit.int .i64 n).wf = true) : InI n := by
  simp only [Lit.wf, Bool.and_eq_true, decide_eq_true_eq] at h
  have h1 : IntKind.i64.min = -9223372036854775808 := rfl
  have h2 : IntKind.i64.max = 9223372036854775807 := rfl
  unfold InI; omega
theorem opens_ints {P : Program} {t e : TypeId} (ht : P.underlying t = some (.slice e)) (he : P.underlying e = some (.int .i64)) (hc : P.cellsOf e = 1) : Opens P t (fun l : List Int => l.length ≤ maxLen ∧ ∀ n ∈ l, InI n) (fun l => [ints l]) :=
  (opens_slice ht hc (opens_int he)).map id (fun _ h => ⟨h.2, fun n hn => i64_in (h.1 n hn)⟩) (fun _ => rfl)

end Go.Proofs.YtgdlhajfajddiaaGreat
namespace Go.Proofs.YtgdlhajfajddiaaGreat
open Go Go.RowKit Cp Go.ChangeShapes Go.WideShapes Go.ChangeAt
set_option maxRecDepth 20000 in
theorem w_RSame0   : Fun Tryz.prog 102 [agg [ints [], ints [], ints [], ints [], ints []], agg [ints [], ints [], ints [], ints [], ints []]] (bool true) := by
 refine Fun.of Tryz.func102 rfl rfl (by exact Nat.le_of_ble_eq_true rfl) fun M0 w0 => ?_
 refine Tr.seq (Tr.reg0 (co rfl (ok_box rfl (VL.le (vl rfl) (agg_cellsP _))) (co rfl (ok_box rfl (VL.le (vl rfl) (agg_cellsP _))) (cm rfl (Ch.nil (Fin.go (Tr.seq (Tr.reg0 (co rfl (kfa rfl fo134_0 rfl rfl) (co rfl (kl1 rfl one22 rfl) (co rfl (kfa rfl fo134_0 rfl rfl) (co rfl (kl1 rfl one22 rfl) (co rfl (ok_call rfl (w_EqualI0) ⟨ke rfl, ke rfl, trivial⟩) ?_)))))))))))))
 refine cm rfl ?_
 refine Ch.cs 10 rfl ?_ ?_ <;> intro h1 q1
 refine cy h1 rfl (kfa rfl fo134_1 rfl rfl) (cy h1 rfl (kl1 rfl one22 rfl) (cy h1 rfl (kfa rfl fo134_1 rfl rfl) (cy h1 rfl (kl1 rfl one22 rfl) (cy h1 rfl (ok_call rfl (w_EqualI0) ⟨ke rfl, ke rfl, trivial⟩) (co rfl (kpt rfl rfl h1 rfl) (cm rfl ?_))))))
 refine Ch.cs 17 rfl ?_ ?_ <;> intro h2 q2
 refine cy h2 rfl (kfa rfl fo134_2 rfl rfl) (cy h2 rfl (kl1 rfl one22 rfl) (cy h2 rfl (kfa rfl fo134_2 rfl rfl) (cy h2 rfl (kl1 rfl one22 rfl) (cy h2 rfl (ok_call rfl (w_EqualI0) ⟨ke rfl, ke rfl, trivial⟩) (co rfl (kpt rfl rfl h2 rfl) (cm rfl ?_))))))
 refine Ch.cs 24 rfl ?_ ?_ <;> intro h3 q3
 refine cy h3 rfl (kfa rfl fo134_3 rfl rfl) (cy h3 rfl (kl1 rfl one22 rfl) (cy h3 rfl (kfa rfl fo134_3 rfl rfl) (cy h3 rfl (kl1 rfl one22 rfl) (cy h3 rfl (ok_call rfl (w_EqualI0) ⟨ke rfl, ke rfl, trivial⟩) (co rfl (kpt rfl rfl h3 rfl) (cm rfl ?_))))))
 refine Ch.cs 31 rfl ?_ ?_ <;> intro h4 q4
 refine cy h4 rfl (kfa rfl fo134_4 rfl rfl) (cy h4 rfl (kl1 rfl one22 rfl) (cy h4 rfl (kfa rfl fo134_4 rfl rfl) (cy h4 rfl (kl1 rfl one22 rfl) (cy h4 rfl (ok_call rfl (w_EqualI0) ⟨ke rfl, ke rfl, trivial⟩) (co rfl (kpt rfl rfl h4 rfl) (cm rfl (Ch.nil (Fin.go (wk1 4 rfl (Tr.ret (Fin.ret1 rfl (OutW.bse _ _) rfl ?_)))))))))))
 · exact Pr.le_refl _
 exact absurd h4 (by decide)
 exact absurd h3 (by decide)
 exact absurd h2 (by decide)
 exact absurd h1 (by decide)
set_option maxRecDepth 20000 in
theorem w_RUnion0   : Fun Tryz.prog 103 [agg [ints [], ints [], ints [], ints [], ints []], agg [ints [], ints [], ints [], ints [], ints []]] (agg [ints [], ints [], ints [], ints [], ints []]) := by
 refine Fun.of Tryz.func103 rfl rfl (by exact Nat.le_of_ble_eq_true rfl) fun M0 w0 => ?_
 refine Tr.seq (Tr.regT (tp rfl (ok_box rfl (VL.le (vl rfl) (agg_cellsP _))) (tp rfl (ok_box rfl (VL.le (vl rfl) (agg_cellsP _))) ?_)))
 refine TO.alloc rfl rfl (by decide) rfl z134 zo134 (fun b1 => ?_)
 refine TO.nil (Fin.go (Tr.seq (Tr.regX mixed [none, none, none, none, none, none, none, none, none, none, none, none, none, none, none, none, none, none, none, none, none, none, none, none, none, none, none, none, none, none, none, some (0, 0, true, 0)] (by kernel_rfl) (xo rfl (fun _ => kfa rfl fo134_0 rfl rfl) (xo rfl (fun _ => kl1 rfl one22 rfl) (xo rfl (fun _ => kfa rfl fo134_0 rfl rfl) (xo rfl (fun _ => kl1 rfl one22 rfl) (xo rfl (fun _ => ok_buildSlice (xs := [.tmp 6, .tmp 8]) (rows := [[_], [_]]) rfl rfl Tryz.underlying208 sz22 z22 rfl (by decide) ⟨⟨(by exact rfl), (VL.le (vl rfl) (one_cellsP _))⟩, ⟨⟨(by exact rfl), (VL.le (vl rfl) (one_cellsP _))⟩, trivial⟩⟩ (by decide)) ?_))))))))
 refine xo rfl (fun _ => ok_call rfl (w_sortedI0) ⟨⟨_, rfl, full_le _ _⟩, trivial⟩) (xo rfl (fun _ => kfa rfl fo134_1 rfl rfl) (xo rfl (fun _ => kl1 rfl one22 rfl) (xo rfl (fun _ => kfa rfl fo134_1 rfl rfl) (xo rfl (fun _ => kl1 rfl one22 rfl) (xo rfl (fun _ => ok_buildSlice (xs := [.tmp 12, .tmp 14]) (rows := [[_], [_]]) rfl rfl Tryz.underlying208 sz22 z22 rfl (by decide) ⟨⟨(by exact rfl), (VL.le (vl rfl) (one_cellsP _))⟩, ⟨⟨(by exact rfl), (VL.le (vl rfl) (one_cellsP _))⟩, trivial⟩⟩ (by decide)) ?_)))))
 refine xo rfl (fun _ => ok_call rfl (w_sortedI0) ⟨⟨_, rfl, full_le _ _⟩, trivial⟩) (xo rfl (fun _ => kfa rfl fo134_2 rfl rfl) (xo rfl (fun _ => kl1 rfl one22 rfl) (xo rfl (fun _ => kfa rfl fo134_2 rfl rfl) (xo rfl (fun _ => kl1 rfl one22 rfl) (xo rfl (fun _ => ok_buildSlice (xs := [.tmp 18, .tmp 20]) (rows := [[_], [_]]) rfl rfl Tryz.underlying208 sz22 z22 rfl (by decide) ⟨⟨(by exact rfl), (VL.le (vl rfl) (one_cellsP _))⟩, ⟨⟨(by exact rfl), (VL.le (vl rfl) (one_cellsP _))⟩, trivial⟩⟩ (by decide)) ?_)))))
 refine xo rfl (fun _ => ok_call rfl (w_sortedI0) ⟨⟨_, rfl, full_le _ _⟩, trivial⟩) (xo rfl (fun _ => kfa rfl fo134_3 rfl rfl) (xo rfl (fun _ => kl1 rfl one22 rfl) (xo rfl (fun _ => kfa rfl fo134_3 rfl rfl) (xo rfl (fun _ => kl1 rfl one22 rfl) (xo rfl (fun _ => ok_buildSlice (xs := [.tmp 24, .tmp 26]) (rows := [[_], [_]]) rfl rfl Tryz.underlying208 sz22 z22 rfl (by decide) ⟨⟨(by exact rfl), (VL.le (vl rfl) (one_cellsP _))⟩, ⟨⟨(by exact rfl), (VL.le (vl rfl) (one_cellsP _))⟩, trivial⟩⟩ (by decide)) ?_)))))
 refine xo rfl (fun _ => ok_call rfl (w_sortedI0) ⟨⟨_, rfl, full_le _ _⟩, trivial⟩) (xo rfl (fun _ => kfa rfl fo134_4 rfl rfl) (xo rfl (fun _ => kl1 rfl one22 rfl) (xo rfl (fun _ => kfa rfl fo134_4 rfl rfl) (xo rfl (fun _ => kl1 rfl one22 rfl) (xo rfl (fun _ => ok_buildSlice (xs := [.tmp 30, .tmp 32]) (rows := [[_], [_]]) rfl rfl Tryz.underlying208 sz22 z22 rfl (by decide) ⟨⟨(by exact rfl), (VL.le (vl rfl) (one_cellsP _))⟩, ⟨⟨(by exact rfl), (VL.le (vl rfl) (one_cellsP _))⟩, trivial⟩⟩ (by decide)) ?_)))))
 refine xo rfl (fun _ => ok_call rfl (w_sortedI0) ⟨⟨_, rfl, full_le _ _⟩, trivial⟩) (xo rfl (fun _ => ok_build (rows := [(0, [_]), (1, [_]), (2, [_]), (3, [_]), (4, [_])]) rfl bl134 zo134 ⟨⟨rfl, (VL.le (vl rfl) (one_cellsP _))⟩, ⟨⟨rfl, (VL.le (vl rfl) (one_cellsP _))⟩, ⟨⟨rfl, (VL.le (vl rfl) (one_cellsP _))⟩, ⟨⟨rfl, (VL.le (vl rfl) (one_cellsP _))⟩, ⟨⟨rfl, (VL.le (vl rfl) (one_cellsP _))⟩, trivial⟩⟩⟩⟩⟩ rfl) (Cx.ef0 0 rfl rfl (ef_store rfl rfl (vl rfl) (VL.le (vl rfl) (agg_cellsP _)) sz134 rfl (by exact Nat.le_of_ble_eq_true rfl) rfl) ?_))
 refine Cx.nil ⟨rfl, ?_⟩
 refine FinX.done (AllC.cons (AllC.map _)) (Fin.go (wk1 4 rfl (Tr.ret (Fin.retX1 rfl (RVal.cell 0 rfl rfl agg134 sz134 rfl (Pr.le_refl _)) ?_))))
 · exact Pr.le_refl _
abbrev atF (host : List UInt8) (day : Int) : Fnd := ⟨3, host, 1, day, 90, 4, [116, 108, 115], 0, 0, 1, []⟩
abbrev aT : Fnd := atF [97, 112, 112] 3
theorem aT_check : checkF aT = true := by decide +kernel
theorem aT_fits : aT.fits := ⟨by simp [maxLen], by simp [maxLen], by simp [maxLen]⟩
theorem nil_NormP : NormP [] := by have := norm_ok (l := []) (fun f h => by simp at h) (by simp); exact this
theorem aT_norm : normL ([] ++ [aT]) = [aT] := by kernel_rfl
theorem aT_NormP : NormP [aT] := by have := norm_ok (l := [aT]) (fun f h => by rw [List.mem_singleton] at h; subst h; exact aT_check) (by simp); rwa [show [aT].foldl putF [] = [aT] from aT_norm] at this
theorem aT_ents : entsF [aT] 3 = [⟨0, [[97, 112, 112]], [1], [0]⟩] := by rw [entsF_RR]; decide +kernel
theorem aT_reH : reH [] 3 aT = [[97, 112, 112]] := by
  have h1 : hostL [] 3 aT = [] := by
    unfold hostL
    rw [entR_ok nil_NormP (by omega)]; rfl
  have h2 : hostL [aT] 3 aT = [[97, 112, 112]] := by
    unfold hostL
    rw [entR_ok aT_NormP (by omega)]
    unfold hitE
    rw [touch_ok aT_NormP (by omega) aT_check, aT_ents]
    decide +kernel
  unfold reH
  rw [aT_norm, h1, h2]
  decide +kernel
theorem w_HostsA : Fun Tryz.prog 53 [fnds [], int 3, agg (rowF aT)] (tup [strs [[97, 112, 112]], int 0]) := by
  have := w_RHostsOK (l := []) (gap := 3) (f := aT) nil_NormP (fun f h => by simp at h) aT_fits aT_check (by simp) (by omega)
  rwa [aT_reH] at this
theorem w_HostsB : Fun Tryz.prog 53 [fnds [], int (-1), agg (rowF aT)] (tup [strs [], int 2]) :=
  w_RHostsBad (l := []) (gap := -1) (f := aT) nil_NormP (fun f h => by simp at h) aT_fits aT_check (by simp) (by omega)
def onHost (f : Fnd) (h : List UInt8) : Fnd := ⟨f.src, h, f.machine, f.day, f.conf, f.kind, f.subj, f.alg, f.bits, f.num, f.text⟩
theorem good_host {f : Fnd} {h : List UInt8} (hf : GoodF f) (hn : named h = true ∧ h.length ≤ maxLen) : GoodF (onHost f h) := by
  refine ⟨?_, ⟨hn.2, hf.fits.subj, hf.fits.text⟩, hf.day⟩
  have hc := hf.check
  unfold checkF whereF at hc ⊢
  have e1 : whenF (onHost f h) = whenF f := rfl
  have e2 : contentF (onHost f h) = contentF f := rfl
  rw [e1, e2]
  simp only [Bool.and_eq_true, onHost] at hc ⊢
  exact ⟨⟨⟨⟨⟨⟨⟨hn.1, hc.1.1.1.1.1.1.2⟩, hc.1.1.1.1.1.2⟩, hc.1.1.1.1.2⟩, hc.1.1.1.2⟩, hc.1.1.2⟩, hc.1.2⟩, hc.2⟩
theorem named_app {t : List UInt8} (h : t ∈ [[97, 112, 112], [100, 98], [119, 101, 98], [120]]) : named t = true ∧ t.length ≤ maxLen := by
  simp only [List.mem_cons, List.not_mem_nil, or_false] at h
  rcases h with rfl | rfl | rfl | rfl <;> exact ⟨by decide, by decide⟩

set_option maxRecDepth 20000 in
theorem w_At {h : List UInt8} {d : Int}  : Fun Tryz.prog 101 [str h, int d] (agg (rowF (atF h d))) := by
 refine Fun.of Tryz.func101 rfl rfl (by exact Nat.le_of_ble_eq_true rfl) fun M0 w0 => ?_
 refine Tr.seq (Tr.regT ?_)
 refine TO.alloc rfl rfl (by decide) rfl z26 zo26 (fun b1 => ?_)
 refine TO.nil (Fin.go (Tr.seq (Tr.regT (tm rfl (tm rfl (tp rfl (ok_build (rows := [(0, [_]), (1, [_]), (2, [_]), (3, [_]), (4, [_]), (6, [_]), (5, [_]), (8, [_])]) rfl bl26 zo26 ⟨⟨rfl, (VL.le (vl rfl) (one_cellsP _))⟩, ⟨⟨rfl, (VL.le (vl rfl) (one_cellsP _))⟩, ⟨⟨rfl, (VL.le (vl rfl) (one_cellsP _))⟩, ⟨⟨rfl, (VL.le (vl rfl) (one_cellsP _))⟩, ⟨⟨rfl, (VL.le (vl rfl) (one_cellsP _))⟩, ⟨⟨rfl, (VL.le (vl rfl) (one_cellsP _))⟩, ⟨⟨rfl, (VL.le (vl rfl) (one_cellsP _))⟩, ⟨⟨rfl, (VL.le (vl rfl) (one_cellsP _))⟩, trivial⟩⟩⟩⟩⟩⟩⟩⟩ rfl) (TO.store_all 0 rfl rfl rfl (vl rfl) (VL.le (vl rfl) (agg_cellsP _)) rfl sz26 rfl rfl (TO.nil (Fin.go (Tr.ret (Fin.eqC 0 (rowF (atF h d)) rfl (by simp only [spliceP, List.map_cons, List.map_nil, List.take_succ_cons, List.take_zero, List.drop_succ_cons, List.drop_zero, List.length_cons, List.length_nil, List.nil_append, List.cons_append, Nat.zero_add, Nat.reduceAdd]) (Fin.retX1 rfl (RVal.cell 0 rfl rfl agg26 sz26 rfl (Pr.le_refl _)) ?_))))))))))))
 · exact Pr.le_refl _
set_option maxRecDepth 20000 in
theorem w_MNorm {l : List Fnd} (hc : ∀ f ∈ l, checkF f = true) (hl : l.length ≤ 400) : Fun Tryz.prog 104 [fnds l] (fnds (l.foldl putF [])) := by
 refine Fun.of Tryz.func104 rfl rfl (by exact Nat.le_of_ble_eq_true rfl) fun M0 w0 => ?_
 refine Tr.seq (Tr.reg0 (cm rfl (Ch.nil (Fin.go (Tr.seq (Tr.reg0 (cm rfl (co rfl (ok_call rfl (w_R14Norm hc hl) ⟨ke rfl, trivial⟩) (cm rfl (co rfl (ok_extract rfl (vl rfl) rfl) (co rfl (ok_extract rfl (vl rfl) rfl) (cm rfl (cm rfl ?_)))))))))))))
 refine Ch.nil (Fin.go (Tr.seq (Tr.reg0 (cm rfl (cm rfl (Ch.nil (Fin.go (Tr.ret (Fin.ret1 rfl (OutW.bse _ _) rfl ?_)))))))))
 · exact Pr.le_refl _
set_option maxRecDepth 20000 in
theorem w_awake39   : Fun Tryz.prog 50 [] (bool true) := by
 refine Fun.of Tryz.func50 rfl rfl (by exact Nat.le_of_ble_eq_true rfl) fun M0 w0 => ?_
 refine Tr.seq (Tr.reg0 (cm rfl (Ch.nil (Fin.go (Tr.seq (Tr.reg0 (co rfl (ok_call rfl (w_At) ⟨ke rfl, ke rfl, trivial⟩) (co rfl (ok_call rfl (w_HostsA) ⟨⟨_, rfl, nil_slice _⟩, ke rfl, ke rfl, trivial⟩) (cm rfl (co rfl (ok_extract rfl (vl rfl) rfl) (co rfl (ok_extract rfl (vl rfl) rfl) (cm rfl (cm rfl ?_)))))))))))))
 refine Ch.nil (Fin.go (Tr.seq (Tr.reg0 (co rfl (ok_call rfl (w_At) ⟨ke rfl, ke rfl, trivial⟩) (co rfl (ok_call rfl (w_HostsB) ⟨⟨_, rfl, nil_slice _⟩, ke rfl, ke rfl, trivial⟩) (cm rfl (co rfl (ok_extract rfl (vl rfl) rfl) (co rfl (ok_extract rfl (vl rfl) rfl) (cm rfl (cm rfl (Ch.nil (Fin.go (wk3 1 2 4 rfl (Tr.seq ?_))))))))))))))
 refine Tr.reg0 (cm rfl (co rfl (ki rfl rfl rfl rfl) (cm rfl ?_)))
 refine Ch.cs 17 rfl ?_ ?_ <;> intro h1 q1
 refine cym h1 rfl (cy h1 rfl (ok_lenm rfl Tryz.underlying53 (vl rfl)) (cy h1 rfl (ki rfl rfl rfl rfl) (co rfl (kpt rfl rfl h1 rfl) (cm rfl ?_))))
 refine Ch.cs 22 rfl ?_ ?_ <;> intro h2 q2
 refine cym h2 rfl ?_
 refine cy h2 rfl (ok_indexAddr rfl Tryz.underlying53 sz9 (vl rfl) (vl rfl) (by omega) (row_atI (i := 0) (l := [[97, 112, 112]]) rfl)) ?_
 refine cy h2 rfl (kl1 rfl one9 rfl) (cy h2 rfl (ok_eqs rfl (vl rfl) (vl rfl)) (co rfl (kpt rfl rfl h2 rfl) (cm rfl ?_)))
 refine Ch.cs 28 rfl ?_ ?_ <;> intro h3 q3
 refine cym h3 rfl (cy h3 rfl (ki rfl rfl rfl rfl) (co rfl (kpt rfl rfl h3 rfl) (cm rfl ?_)))
 refine Ch.cs 32 rfl ?_ ?_ <;> intro h4 q4
 refine cy h4 rfl (ok_build (rows := []) rfl bl134 zo134 trivial rfl) (cy h4 rfl (ok_build (rows := []) rfl bl134 zo134 trivial rfl) (cy h4 rfl (ok_build (rows := []) rfl bl134 zo134 trivial rfl) (cy h4 rfl (ok_call rfl (w_RUnion0) ⟨⟨_, rfl, agg_le ⟨nil_slice 1, nil_slice 1, nil_slice 1, nil_slice 1, nil_slice 1, trivial⟩⟩, ⟨_, rfl, agg_le ⟨nil_slice 1, nil_slice 1, nil_slice 1, nil_slice 1, nil_slice 1, trivial⟩⟩, trivial⟩) (cy h4 rfl (ok_call rfl (w_RSame0) ⟨⟨_, rfl, agg_le ⟨nil_slice 1, nil_slice 1, nil_slice 1, nil_slice 1, nil_slice 1, trivial⟩⟩, ke rfl, trivial⟩) (co rfl (kpt rfl rfl h4 rfl) (cm rfl (Ch.nil (Fin.go (wk1 0 rfl (Tr.ret (Fin.ret1 rfl (OutW.bse _ _) rfl ?_)))))))))))
 · exact Pr.le_refl _
 exfalso; simp at h4
 exfalso; simp at h3
 exfalso; simp at h2
 exfalso; simp at h1
set_option maxRecDepth 20000 in
theorem w_about {b : Nat} {s : DS}  : FunM Tryz.prog 52 [ptr b 0] (ex fun f : Fnd => fact (GoodF f) (agg (rowF f))) (diceS b s) (fun _ => diceEx 88 b) := by
 refine FunM.of Tryz.func52 rfl rfl (by exact Nat.le_of_ble_eq_true rfl) fun M0 w0 S rs M1 w1 => ?_
 refine Tr.seq (Tr.regT ?_)
 refine TO.alloc rfl rfl (by decide) rfl z26 zo26 (fun b1 => ?_)
 refine TO.nil (Fin.go (Tr.seq (Tr.regT (tm rfl (TO.efc 1 rfl rfl (by decide) (ef_callc rfl rfl (by decide) rfl (w_Finding) ⟨ke rfl, trivial⟩) ?_)))))
 refine TO.ex 5 rfl (fun z1 => TO.fact 5 rfl fun hz1 => ?_)
 refine TO.alloc rfl rfl (by decide) rfl z26 zo26 (fun b2 => ?_)
 refine TO.store_all 0 rfl rfl rfl (vl rfl) (VL.le (vl rfl) (agg_cellsP _)) rfl sz26 rfl rfl (TO.nil (Fin.openD 2 rfl (fun s1 => ?_)))
 refine Fin.go (Tr.seq (Tr.regT (tm rfl (tp rfl (ok_buildSlice (xs := [.const (.string ⟨[97, 112, 112].toArray⟩), .const (.string ⟨[100, 98].toArray⟩), .const (.string ⟨[119, 101, 98].toArray⟩), .const (.string ⟨[120].toArray⟩)]) (rows := [[_], [_], [_], [_]]) rfl rfl Tryz.underlying53 sz9 z9 rfl (by decide) ⟨⟨(by exact rfl), (VL.le (vl rfl) (one_cellsP _))⟩, ⟨⟨(by exact rfl), (VL.le (vl rfl) (one_cellsP _))⟩, ⟨⟨(by exact rfl), (VL.le (vl rfl) (one_cellsP _))⟩, ⟨⟨(by exact rfl), (VL.le (vl rfl) (one_cellsP _))⟩, trivial⟩⟩⟩⟩ (by decide)) ?_))))
 refine TO.efc 2 rfl rfl (by decide) (ef_callc rfl rfl (by decide) rfl (w_DWord (l := [[97, 112, 112], [100, 98], [119, 101, 98], [120]]) (by simp) (by simp)) ⟨ke rfl, ⟨_, rfl, full_le _ _⟩, trivial⟩) ?_
 refine tp rfl (okp_fieldAddr rfl fo26_1 (vl rfl)) (TO.ef0 0 rfl rfl (ef_store rfl rfl (vl rfl) (VL.le (vl rfl) (one_cellsP _)) sz9 rfl (by exact Nat.le_of_ble_eq_true rfl) rfl) (TO.nil (Fin.go (Tr.seq (Tr.regT (TO.rd 0 rfl rfl rfl (by decide) (rd_loadA rfl agg26 sz26 (vl rfl) rfl rfl) (TO.store_all 1 rfl rfl rfl (vl rfl) (VL.le (vl rfl) (agg_cellsP _)) rfl sz26 rfl rfl (TO.nil (Fin.go (Tr.drop 0 (Tr.ret (Fin.closeD 1 _ rfl rfl (Fin.retY1 [_] rfl (RVal.cell 0 rfl rfl agg26 sz26 rfl (Pr.le_refl _)) ?_ (fun _ _ _ _ => rfl))))))))))))))
 · exact ex_in (onHost z1 (word_ s1 [[97, 112, 112], [100, 98], [119, 101, 98], [120]])) (fact_in (good_host hz1 (named_app (word_mem s1 (by simp)))) (Pr.le_refl _))
set_option maxRecDepth 20000 in
theorem w_known {b : Nat} {s : DS} {m : Nat} (hm : m ≤ 100) : FunM Tryz.prog 51 [ptr b 0, int ((m : Nat) : Int)] (ex fun l : List Fnd => fact (GoodFs l m) (fnds l)) (diceS b s) (fun _ => diceEx 88 b) := by
 refine FunM.of Tryz.func51 rfl rfl (by exact Nat.le_of_ble_eq_true rfl) fun M0 w0 S rs M1 w1 => ?_
 refine Tr.seq (Tr.reg0 (cm rfl (Ch.nil (Fin.go (Tr.seq (Tr.reg0 (cm rfl (Ch.nil (Fin.go (Tr.seq (Tr.seq (Tr.regT (tm rfl ?_)))))))))))))
 refine tm rfl ?_
 refine tp rfl (ok_add rfl (vl rfl) (vl rfl) ?hin) ?_; case hin => unfold InI; omega
 refine TO.efc 0 rfl rfl (by decide) (ef_callc rfl rfl (by decide) rfl (w_DNext (by omega) (by omega)) ⟨ke rfl, ke rfl, trivial⟩) (tm rfl (TO.nil (Fin.go (Tr.block ?_))))
 have hv := s.val_in (n := (m : Int) + 1) (by omega)
 refine Tr.addnil 26 11 ?_
 refine Tr.loopD3V1 [(0, _)] ⟨ke rfl, trivial⟩ (fun (l : List Fnd) (k : Int) (s2 : DS) u => [(6, int k), (5, andIs u (fnds l))]) (fun (l : List Fnd) (k : Int) (s2 : DS) u => Hp M0 w0 S (appRes 26 11 u :: diceS b s2 :: extRes M1 w1 :: rs)) (fun (l : List Fnd) (k : Int) (s2 : DS) => 0 ≤ k ∧ l.length + k ≤ m ∧ ∀ f ∈ l, GoodF f) (fun (l : List Fnd) (k : Int) (s2 : DS) => k.toNat) ([]) (_) (_) (.slice none 0 0) (⟨by omega, by simp; omega, by simp⟩) ⟨ke rfl, ⟨_, rfl, own_nil (by simp)⟩, trivial⟩ (fun _ _ h => h) ?_
 rintro l k s2 u ⟨hk, hkm, hl⟩
 refine Tr.seq (Tr.seq (Tr.reg0 (cm rfl (co rfl (ki rfl rfl rfl rfl) (Ch.nil (Fin.go ?_))))))
 refine Tr.cn rfl ?_ ?_ <;> intro h1 q1
 have hk0 : k > 0 := of_decide_eq_true h1
 refine Tr.skip (Fin.go (Tr.seq (Tr.block (Tr.regT (tm rfl (tm rfl (TO.efc 1 rfl rfl (by decide) (ef_callc rfl rfl (by decide) rfl (w_about) ⟨ke rfl, trivial⟩) ?_)))))))
 refine TO.ex 17 rfl (fun z1 => TO.fact 17 rfl fun hz1 => ?_)
 refine tp rfl (ok_buildSlice (xs := [.tmp 17]) (rows := [_]) rfl rfl Tryz.underlying31 sz26 z26 rfl (by decide) ⟨⟨(by exact rfl), (VL.le (vl rfl) (agg_cellsP _))⟩, trivial⟩ (by decide)) ?_
 refine TO.efs 0 rfl rfl (by decide) (ef_append rfl rfl (by decide) rfl Tryz.underlying31 sz26 by26 z26 rfl (by decide) ⟨_, rfl, andIs_le _ _⟩ ⟨_, rfl, full_le _ _⟩ (by simp only [List.length_map, List.length_append, List.length_cons, List.length_nil]; unfold maxLen; omega) (by simp only [List.length_map, List.length_append, List.length_cons, List.length_nil]; omega) (appR_is (by exact List.Mem.head _) ⟨_, rfl, andIs_is _ _⟩)) (fun v1 => ?_)
 refine tm rfl (TO.nil (Fin.openD 1 rfl (fun s1 => ?_)))
 refine Fin.block (Fin.go (Tr.reg0 (cm rfl (csu rfl rfl rfl rfl (by omega) (cm rfl (Ch.nil ?_))))))
 exact Fin.famD3V1 (l ++ [z1]) (k - 1) (_) v1 (⟨⟨by omega, by simp; omega, all_snocF hl hz1⟩, by omega⟩) ⟨ke rfl, ⟨_, rfl, own_le (by rw [List.map_append]; rfl)⟩, ke rfl, trivial⟩ (fun _ _ h => h)
 have hk0 : ¬ k > 0 := of_decide_eq_false h1
 refine Tr.exit (Fin.then_exit (Fin.then_exit (Fin.block_here (Fin.go (Tr.seq (Tr.reg0 (cm rfl ?_)))))))
 refine co rfl (ok_call rfl (w_MNorm (l := l) (fun f hf => (hl f hf).check) (by omega)) ⟨⟨_, rfl, andIs_le _ _⟩, trivial⟩) ?_
 refine cm rfl (Ch.nil (Fin.go (Tr.ret (Fin.closeD 1 _ rfl rfl (Fin.retY1 [_] rfl (RVal.tmp rfl (Pr.le_refl _)) ?_ (fun _ _ _ _ => rfl))))))
 · exact ex_in (l.foldl putF []) (fact_in (good_fold hl (by omega)) (Pr.le_refl _))
theorem any_snocX {α : Type} {l : List α} {k : Nat} {x : α} (p : α → Bool) (hx : l[k]? = some x) : (l.take (k + 1)).any p = ((l.take k).any p || p x) := by
  rw [List.take_add_one, hx, List.any_append]; simp

set_option maxRecDepth 20000 in
theorem w_meets {a b : List (List UInt8)}  : Fun Tryz.prog 55 [strs a, strs b] (bool (a.any fun x => b.any fun y => decide (x = y))) := by
 refine Fun.of Tryz.func55 rfl rfl (by exact Nat.le_of_ble_eq_true rfl) fun M0 w0 => ?_
 refine Tr.lenm 0 rfl fun hlm_0 => (Tr.lenm 1 rfl fun hlm_1 => (Tr.seq (Tr.reg0 (cm rfl (Ch.nil (Fin.go (Tr.seq (Tr.seq (Tr.reg0 (cm rfl (co rfl (ok_lenm rfl Tryz.underlying53 (vl rfl)) (cm rfl (Ch.nil (Fin.go ?_))))))))))))))
 refine Tr.block (Tr.loopw [(1, _), (9, _), (10, _)] (kk3 rfl) (fun i : Nat => [(11, int ((i : Nat) : Int))]) (fun i : Nat => i ≤ (a).length ∧ ((a.take i).any (fun x => b.any fun y => decide (x = y)) = false)) (fun i : Nat => (a).length - i) 0 (⟨Nat.zero_le _, rfl⟩) ⟨ke rfl, trivial⟩ ?_)
 rintro i ⟨hle_i, hinv_i⟩
 refine Tr.seq (Tr.reg0 (co rfl (ki rfl rfl rfl rfl) (Ch.nil (Fin.go (Tr.seq ?_)))))
 refine Tr.cn rfl ?_ ?_ <;> intro h1 q1
 have hk_i : i < (a).length := lt_of_dec h1
 obtain ⟨x, hx_i⟩ := at_ hk_i
 refine Tr.skip (Fin.go (Tr.seq (Tr.block (Tr.seq (Tr.reg0 (co rfl (ok_indexAddr rfl Tryz.underlying53 sz9 (vl rfl) (vl rfl) (by omega) (by exact row_at (by assumption))) ?_))))))
 refine co rfl (kl1 rfl one9 rfl) (cm rfl (Ch.nil (Fin.go (Tr.seq (Tr.reg0 (cm rfl (co rfl (ok_lenm rfl Tryz.underlying53 (vl rfl)) (cm rfl (Ch.nil (Fin.go (Tr.block (Tr.loopw [(1, _), (6, _), (9, _), (10, _), (11, _), (15, _), (16, _)] (kk7 rfl) (fun k : Nat => [(17, int ((k : Nat) : Int))]) (fun k : Nat => k ≤ (b).length ∧ ((b.take k).any (fun y => decide (x = y)) = false)) (fun k : Nat => (b).length - k) 0 (⟨Nat.zero_le _, rfl⟩) ⟨ke rfl, trivial⟩ ?_))))))))))))
 rintro k ⟨hle_k, hinv_k⟩
 refine Tr.seq (Tr.reg0 (co rfl (ki rfl rfl rfl rfl) (Ch.nil (Fin.go (Tr.seq ?_)))))
 refine Tr.cn rfl ?_ ?_ <;> intro h2 q2
 have hk_k : k < (b).length := lt_of_dec h2
 obtain ⟨y, hx_k⟩ := at_ hk_k
 refine Tr.skip (Fin.go (Tr.seq (Tr.block (Tr.seq (Tr.reg0 (co rfl (ok_indexAddr rfl Tryz.underlying53 sz9 (vl rfl) (vl rfl) (by omega) (by exact row_at (by assumption))) ?_))))))
 refine co rfl (kl1 rfl one9 rfl) (cm rfl (Ch.nil (Fin.go (Tr.seq (Tr.reg0 (cm rfl (cm rfl (co rfl (ok_eqs rfl (vl rfl) (vl rfl)) (Ch.nil (Fin.go (wk9 1 6 9 10 11 15 16 17 23 rfl ?_)))))))))))
 refine Tr.cn rfl ?_ ?_ <;> intro h3 q3
 refine Tr.seq (Tr.reg0 (cm rfl (Ch.nil (Fin.go (Tr.ret (Fin.block_ret (Fin.then_ret (Fin.then_ret (Fin.block_ret (Fin.block_ret (Fin.then_ret (Fin.then_ret (Fin.block_ret (Fin.then_ret ?_))))))))))))))
 refine Fin.ret1 rfl (OutW.bse _ _) rfl ?_
 · refine bool_eq ?_; symm; rw [List.any_eq_true]; refine ⟨x, List.mem_of_getElem? hx_i, ?_⟩; rw [List.any_eq_true]; exact ⟨y, List.mem_of_getElem? hx_k, by simp_all⟩
 refine Tr.skip (Fin.block (Fin.go (Tr.reg0 (cad rfl rfl rfl rfl (by omega) (cm rfl (Ch.nil ?_))))))
 exact Fin.fam_same (k + 1) ⟨⟨hk_k, (by rw [any_snocX _ hx_k, hinv_k, Bool.false_or]; simpa using (by assumption : ¬ x = y))⟩, by omega⟩ ⟨⟨_, rfl, int_succ k⟩, ke rfl, ke rfl, ke rfl, ke rfl, ke rfl, ke rfl, ke rfl, trivial⟩
 have he_k : k = (b).length := by have := ge_of_dec h2; omega
 subst he_k
 rw [List.take_length] at hinv_k
 refine Tr.exit (Fin.then_exit (Fin.then_exit (Fin.block_here (Fin.block (Fin.go (Tr.reg0 (cad rfl rfl rfl rfl (by omega) (cm rfl (Ch.nil ?_)))))))))
 exact Fin.fam_same (i + 1) ⟨⟨hk_i, (by rw [any_snocX _ hx_i, hinv_i, Bool.false_or]; exact hinv_k)⟩, by omega⟩ ⟨⟨_, rfl, int_succ i⟩, ke rfl, ke rfl, ke rfl, trivial⟩
 have he_i : i = (a).length := by have := ge_of_dec h1; omega
 subst he_i
 rw [List.take_length] at hinv_i
 refine Tr.exit (Fin.then_exit (Fin.then_exit (Fin.block_here (Fin.go (Tr.seq (Tr.reg0 (cm rfl (Ch.nil (Fin.go (Tr.ret (Fin.ret1 rfl (OutW.bse _ _) rfl ?_)))))))))))
 · exact bool_eq hinv_i.symm
theorem ascOs_le : ∀ (l acc : List (List UInt8)), (l.foldl (fun acc x => insC Lib.compareBytes acc x) acc).length ≤ acc.length + l.length
  | [], acc => Nat.le_refl _
  | x :: l, acc => by
    have h1 := ascOs_le l (insC Lib.compareBytes acc x)
    have h2 := insC_len Lib.compareBytes x acc
    rw [List.foldl_cons, List.length_cons]; omega
theorem reH_le {l : List Fnd} {gap : Int} {f : Fnd} (h : l.length ≤ 20) : (reH l gap f).length < 50 := by
  have h1 := (reH_len (gap := gap) (f := f) h).1
  rw [← reH_eq]
  have h2 := ascOs_le ([hostL l gap f, hostL (normL (l ++ [f])) gap f, [f.host]].flatten) []
  unfold ascOs
  rw [List.length_nil] at h2
  omega
end Go.Proofs.YtgdlhajfajddiaaGreat
namespace Go.Proofs.YtgdlhajfajddiaaGreat
open Go Go.RowKit Cp

/-- Findings by their numbers. -/
def listF (l : List Fnd) (n : List Int) : List Fnd := n.filterMap fun v => l[v.toNat]?
theorem listF_succ {l : List Fnd} {n : List Int} {k : Nat} {v : Int} {g : Fnd} (hv : n[k]? = some v) (hg : l[v.toNat]? = some g) : listF l (n.take (k + 1)) = listF l (n.take k) ++ [g] := by
  unfold listF
  rw [List.take_add_one, hv, List.filterMap_append]
  simp [hg]
theorem listF_len (l : List Fnd) (n : List Int) : (listF l n).length ≤ n.length := List.length_filterMap_le _ _
theorem listF_map {x y : List Fnd} {n : List Int} {τ : Int → Int} (h : ∀ v ∈ n, y[(τ v).toNat]? = x[v.toNat]?) : listF y (n.map τ) = listF x n := by
  unfold listF
  rw [List.filterMap_map]
  induction n with
  | nil => rfl
  | cons v n ih =>
    have h1 := h v (List.mem_cons_self ..)
    have h2 := ih fun w hw => h w (List.mem_cons_of_mem _ hw)
    rw [List.filterMap_cons, List.filterMap_cons, show ((fun v => y[v.toNat]?) ∘ τ) v = x[v.toNat]? from h1, h2]
theorem late_pair {x : List Fnd} {f : Fnd} {p : Nat} {gap : Int} (hp : p ≤ x.length) (hx : AdjF x) (hy : AdjF (insF x f p)) {r : Nat} (hr : r < x.length) (hrr : rootS x gap r = r) (hfar : ∀ i g, x[i]? = some g → rootS x gap i = r → Far f g) :
    sg p r < (insF x f p).length ∧ rootS (insF x f p) gap (sg p r) = sg p r ∧ listF (insF x f p) (entK (insF x f p) (rootS (insF x f p) gap) (sg p r) (insF x f p).length).fnds = listF x (entK x (rootS x gap) r x.length).fnds := by
  have hl := insF_len (f := f) hp
  have hs : sg p r < (insF x f p).length := by rw [hl]; unfold sg; split <;> omega
  refine ⟨hs, (late_class hp hx hy hr hrr hfar _ hs).2 ⟨r, rfl, hr, hrr⟩, ?_⟩
  rw [late_fnds hp hx hy hr hrr hfar]
  refine listF_map fun v hv => ?_
  obtain ⟨j, _, _, hj⟩ := (fnds_mem (Nat.le_refl _)).1 hv
  rw [sgI_toNat (by omega), insF_sg hp]
/-- A class of the longer list that f does not touch is one of the shorter. -/
theorem back_class {x : List Fnd} {f : Fnd} {p : Nat} {gap : Int} (hp : p ≤ x.length) (hx : AdjF x) (hy : AdjF (insF x f p)) {s : Nat} (hs : s < (insF x f p).length) (hss : rootS (insF x f p) gap s = s) (hfar : ∀ k g, (insF x f p)[k]? = some g → rootS (insF x f p) gap k = s → Far f g) :
    ∃ r, s = sg p r ∧ r < x.length ∧ rootS x gap r = r ∧ ∀ i g, x[i]? = some g → rootS x gap i = r → Far f g := by
  have hyl := insF_len (f := f) hp
  have hsp : ¬ s = p := by
    intro e
    exact (hfar s f (by rw [e]; exact insF_mid hp) hss).host rfl
  obtain ⟨r, hsr⟩ : ∃ r, s = sg p r := by
    rcases sg_cases p s with h | h
    · exact absurd h hsp
    · exact h
  have hrl : r < x.length := by rw [hsr, hyl] at hs; unfold sg at hs; split at hs <;> omega
  have hlt : ∀ i, i < x.length → sg p i < (insF x f p).length := fun i hi => by rw [hyl]; unfold sg; split <;> omega
  classical
  have hA : ∀ a b, a < x.length → b < x.length → RR x gap x.length a = RR x gap x.length b → (rootS (insF x f p) gap (sg p a) = s ↔ rootS (insF x f p) gap (sg p b) = s) := by
    intro a b ha hb hab
    have hkey := RR_key (l := x) (gap := gap) (key := fun a => if rootS (insF x f p) gap (sg p a) = s then 1 else 0) x.length (fun k hk he => ?_) a b hab
    · have h1 : (if rootS (insF x f p) gap (sg p a) = s then 1 else 0) = (if rootS (insF x f p) gap (sg p b) = s then 1 else 0 : Nat) := hkey
      by_cases h2 : rootS (insF x f p) gap (sg p a) = s <;> by_cases h3 : rootS (insF x f p) gap (sg p b) = s
      · exact ⟨fun _ => h3, fun _ => h2⟩
      · rw [if_pos h2, if_neg h3] at h1; omega
      · rw [if_neg h2, if_pos h3] at h1; omega
      · exact ⟨fun h => absurd h h2, fun h => absurd h h3⟩
    · have hel := edge_in hk he
      obtain ⟨g, hg⟩ := at_ hk
      obtain ⟨d, hd, hby⟩ := edge_by hg he
      have hfwd : Far f g → rootS (insF x f p) gap (sg p k) = rootS (insF x f p) gap (sg p (edgeOf x gap k).toNat) := by
        intro hgf
        have hef := edge_far (gap := gap) hp hx hy hg hgf
        have hge : 0 ≤ edgeOf (insF x f p) gap (sg p k) := by
          rcases Int.lt_or_le (edgeOf (insF x f p) gap (sg p k)) 0 with h9 | h9
          · rw [hef, sgI_neg_iff] at h9; omega
          · exact h9
        rw [edge_sound hge, hef, sgI_toNat he]
      have hiff : rootS (insF x f p) gap (sg p k) = s ↔ rootS (insF x f p) gap (sg p (edgeOf x gap k).toNat) = s := by
        constructor
        · intro h
          rw [← hfwd (hfar (sg p k) g (by rw [insF_sg hp, hg]) h)]; exact h
        · intro h
          have hdf := hfar (sg p (edgeOf x gap k).toNat) d (by rw [insF_sg hp, hd]) h
          rcases hby with ⟨h1, h2⟩ | ⟨h1, h2⟩
          · have := RR_machine' (l := insF x f p) (gap := gap) h1 (i := sg p k) (j := sg p (edgeOf x gap k).toNat) (by rw [insF_sg hp, hg]) (by rw [insF_sg hp, hd]) rfl h2
            rw [RR_eq (hlt k hk), RR_eq (hlt _ hel)] at this
            rw [this]; exact h
          · have hgf : Far f g := ⟨by rw [← h2]; exact hdf.host, by
              rcases Classical.em (f.machine = 0) with h3 | h3
              · exact .inl h3
              · exact .inr (by rw [h1]; exact fun e => h3 e.symm)⟩
            rw [hfwd hgf]; exact h
      show (if _ then 1 else 0) = if _ then 1 else (0 : Nat)
      by_cases h9 : rootS (insF x f p) gap (sg p k) = s
      · rw [if_pos h9, if_pos (hiff.1 h9)]
      · rw [if_neg h9, if_neg (fun h => h9 (hiff.2 h))]
  have hrs : rootS (insF x f p) gap (sg p r) = s := by rw [← hsr]; exact hss
  have hroot : rootS x gap r = r := by
    have hle := rootS_le x gap r
    have hid := rootS_idem (l := x) (gap := gap) hrl
    have h1 := (hA (rootS x gap r) r (by omega) hrl (by rw [RR_eq (by omega), RR_eq hrl]; exact hid)).2 hrs
    have h2 := rootS_le (insF x f p) gap (sg p (rootS x gap r))
    rw [h1, hsr] at h2
    rcases Nat.lt_or_eq_of_le hle with h3 | h3
    · have := sg_lt (p := p).2 h3; omega
    · exact h3
  refine ⟨r, hsr, hrl, hroot, fun i g hg hir => ?_⟩
  have hil := lt_of_atX hg
  have := (hA i r hil hrl (by rw [RR_eq hil, RR_eq hrl, hir, hroot])).2 hrs
  exact hfar (sg p i) g (by rw [insF_sg hp, hg]) this
theorem normL_snoc {x : List Fnd} (hx : AdjF x) (f : Fnd) : normL (x ++ [f]) = putF x f := by
  show (x ++ [f]).foldl putF [] = _
  rw [List.foldl_append]
  show putF (normL x) f = _
  rw [norm_id hx]
theorem ent_mem {l : List Fnd} {gap : Int} {r : Nat} (h1 : r < l.length) (h2 : rootS l gap r = r) : entK l (rootS l gap) r l.length ∈ entsF l gap := by
  unfold entsF entsK
  refine List.mem_map.2 ⟨r, ?_, rfl⟩
  unfold rootsK
  rw [List.mem_filter, List.mem_range]
  exact ⟨h1, by simpa using h2⟩
theorem far_class {l : List Fnd} {gap : Int} {f : Fnd} {r : Nat} (h : ∀ v ∈ (entK l (rootS l gap) r l.length).fnds, ∀ g, l[v.toNat]? = some g → Far f g) : ∀ i g, l[i]? = some g → rootS l gap i = r → Far f g :=
  fun i g hg hir => h ((i : Nat) : Int) ((fnds_mem (Nat.le_refl _)).2 ⟨i, lt_of_atX hg, hir, rfl⟩) g (by rw [Int.toNat_natCast]; exact hg)
theorem late_list {x : List Fnd} {gap : Int} {f : Fnd} {e : Ent} (hx : AdjF x) (hy : AdjF (normL (x ++ [f]))) (he : e ∈ entsF x gap) (hfar : ∀ v ∈ e.fnds, ∀ g, x[v.toNat]? = some g → Far f g) : ((entsF (normL (x ++ [f])) gap).any fun d => decide (listF x e.fnds = listF (normL (x ++ [f])) d.fnds)) = true := by
  rw [normL_snoc hx] at hy ⊢
  obtain ⟨r, h1, h2, rfl⟩ := ents_of he
  rw [List.any_eq_true]
  unfold putF at hy ⊢
  by_cases hc : 0 < kF x f ∧ ((x[kF x f - 1]?).map fun y => ordF y f) = some 0
  · rw [if_pos hc]
    exact ⟨_, he, by simp⟩
  · rw [if_neg hc] at hy ⊢
    have hk := kF_le x f
    have e1 : x.take (kF x f) ++ [f] ++ x.drop (kF x f) = insF x f (kF x f) := by unfold insF; simp
    rw [e1] at hy ⊢
    obtain ⟨h3, h4, h5⟩ := late_pair hk hx hy h1 h2 (far_class hfar)
    exact ⟨_, ent_mem h3 h4, by rw [h5]; simp⟩
theorem back_list {x : List Fnd} {gap : Int} {f : Fnd} {d : Ent} (hx : AdjF x) (hy : AdjF (normL (x ++ [f]))) (hd : d ∈ entsF (normL (x ++ [f])) gap) (hfar : ∀ v ∈ d.fnds, ∀ g, (normL (x ++ [f]))[v.toNat]? = some g → Far f g) : ((entsF x gap).any fun e => decide (listF x e.fnds = listF (normL (x ++ [f])) d.fnds)) = true := by
  rw [normL_snoc hx] at hy hd hfar ⊢
  rw [List.any_eq_true]
  unfold putF at hy hd hfar ⊢
  by_cases hc : 0 < kF x f ∧ ((x[kF x f - 1]?).map fun y => ordF y f) = some 0
  · rw [if_pos hc] at hd ⊢
    exact ⟨_, hd, by simp⟩
  · rw [if_neg hc] at hy hd hfar ⊢
    have hk := kF_le x f
    have e1 : x.take (kF x f) ++ [f] ++ x.drop (kF x f) = insF x f (kF x f) := by unfold insF; simp
    rw [e1] at hy hd hfar ⊢
    obtain ⟨s, h1, h2, rfl⟩ := ents_of hd
    obtain ⟨r, h3, h4, h5, h6⟩ := back_class hk hx hy h1 h2 (far_class hfar)
    obtain ⟨_, _, h7⟩ := late_pair hk hx hy h4 h5 h6
    refine ⟨_, ent_mem h4 h5, ?_⟩
    rw [decide_eq_true_eq, h3, h7]
theorem far_iff {f g : Fnd} (h : touchP f g = false) : Far f g := by
  unfold touchP at h
  simp only [Bool.or_eq_false_iff, Bool.and_eq_false_iff, decide_eq_false_iff_not, Classical.not_not] at h
  exact ⟨h.1, h.2⟩
/-- An entity none of whose hosts is among H is not touched, when H has all hosts that are. -/
theorem far_meets {l : List Fnd} {gap : Int} {f : Fnd} {e : Ent} {H : List (List UInt8)} (hN : NormP l) (hg : 0 ≤ gap ∧ gap ≤ 4000) (hc : checkF f = true) (he : e ∈ entsF l gap) (hH : ∀ h ∈ hostL l gap f, h ∈ H) (hm : (e.hosts.any fun x => H.any fun y => decide (x = y)) = false) : ∀ v ∈ e.fnds, ∀ g, l[v.toNat]? = some g → Far f g := by
  intro v hv g hgv
  refine far_iff ?_
  cases ht : touchP f g with
  | false => rfl
  | true =>
    exfalso
    have h1 := hH _ (host_in hN hg hc (List.mem_of_getElem? hgv) ht)
    obtain ⟨r, _, _, rfl⟩ := ents_of he
    obtain ⟨j, h2, h3, h4⟩ := (fnds_mem (Nat.le_refl _)).1 hv
    have h5 := ent_host (l := l) (root := rootS l gap) (j := j) (g := g) (by rw [h4, Int.toNat_natCast] at hgv; exact hgv) h3 l.length h2 (Nat.le_refl _)
    have : ((entK l (rootS l gap) r l.length).hosts.any fun x => H.any fun y => decide (x = y)) = true := by
      rw [List.any_eq_true]
      refine ⟨_, h5, ?_⟩
      rw [List.any_eq_true]
      exact ⟨_, h1, by simp⟩
    rw [hm] at this; cases this
theorem reH_pre {l : List Fnd} {gap : Int} {f : Fnd} {h : List UInt8} (hh : h ∈ hostL l gap f) : h ∈ reH l gap f := by unfold reH; rw [ascOs_mem]; simp [hh]
theorem reH_post {l : List Fnd} {gap : Int} {f : Fnd} {h : List UInt8} (hh : h ∈ hostL (normL (l ++ [f])) gap f) : h ∈ reH l gap f := by unfold reH; rw [ascOs_mem, List.mem_append, List.mem_append]; exact .inr (.inl hh)

end Go.Proofs.YtgdlhajfajddiaaGreat
