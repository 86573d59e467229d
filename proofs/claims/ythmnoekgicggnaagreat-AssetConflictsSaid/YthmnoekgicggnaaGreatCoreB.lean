/-
  The rules of the program logic: regions in whatever order, control, functions.
-/
import Derived.Test.YthmnoekgicggnaaGreatCoreA
namespace Cp
open Go Go.RowKit

section
variable {P : Program} {n : Nat} {I : Asn}

theorem gives_upon {M : Av} {w : World} {p : Pr} {o : Oper} {a : Act} {next : Act → World → Prop} {Q : Exit → Act → World → Prop} {r : Result Next} (h : Gives P M w p r)
    (k : ∀ v w', p.h M w' v → Below w.heap.size w w' → next (a.put o.dst v) w') : o.upon P a next Q r := by
  cases r with
  | halt x w' => exact h.elim
  | ok x w' =>
    cases x <;> first | exact h.elim | skip
    case value v => exact k _ _ h.1 h.2
    case skip => exact k _ _ h.1 h.2
    case enter f args =>
      obtain ⟨h1, h2⟩ := h
      refine h2.mono ?_
      rintro e w'' ⟨v, rfl, h3, h4⟩
      exact k _ _ h3 (below_trans h1 h4)

theorem looks_env {M : Av} {w : World} {E : Env} {o : Oper} {a : Act} (h : EnvOK M w E a) : EnvFor M w E o a := fun s p _ hp => h s p hp

theorem wanted_none {o : Oper} {y : Nat → Option Bool} (h : o.guard = none) : Region.wanted o y = true := by simp [Region.wanted, h]
theorem wanted_some {o : Oper} {y : Nat → Option Bool} {j : Nat} {want : Bool} {b : Option Bool} (h : o.guard = some (j, want)) (hy : y j = b) : Region.wanted o y = (b == some want) := by
  simp [Region.wanted, h, hy]
theorem yielded_bool {ops : Array Oper} {t : Array Value} {j d : Nat} {b : Bool} (hj : (ops[j]?).bind (·.dst) = some d) (hd : d < t.size) (h : t.getD d undef = .bool b) : yielded ops t j = some b := by
  have h1 : t[d]? = some (.bool b) := by
    rw [Array.getElem?_eq_getElem hd]
    rw [Array.getD_eq_getD_getElem?, Array.getElem?_eq_getElem hd] at h
    simpa using h
  have h2 : ((ops[j]?).bind (·.dst)).bind (t[·]?) = some (.bool b) := by rw [hj]; exact h1
  unfold yielded
  rw [h2]

theorem yielded_ob {M : Av} {w : World} {ops : Array Oper} {t : Array Value} {j d : Nat} {b : Option Bool} (hj : (ops[j]?).bind (·.dst) = some d) (h : (obool b).h M w (t.getD d undef)) : yielded ops t j = b := by
  rcases Nat.lt_or_ge d t.size with hd | hd
  · cases b with
    | some b => exact yielded_bool hj hd h
    | none =>
      have h0 : t.getD d undef = undef := h
      have h1 : t[d]? = some undef := by
        rw [Array.getElem?_eq_getElem hd]
        rw [Array.getD_eq_getD_getElem?, Array.getElem?_eq_getElem hd] at h0
        simpa using h0
      have h2 : ((ops[j]?).bind (·.dst)).bind (t[·]?) = some undef := by rw [hj]; exact h1
      unfold yielded
      rw [h2]; rfl
  · have h1 : t[d]? = none := Array.getElem?_eq_none hd
    have h2 : ((ops[j]?).bind (·.dst)).bind (t[·]?) = none := by rw [hj]; exact h1
    have h3 : yielded ops t j = none := by unfold yielded; rw [h2]
    rw [h3]
    cases b with
    | none => rfl
    | some b =>
      have h4 : t.getD d undef = .bool b := h
      rw [Array.getD_eq_getD_getElem?, h1] at h4
      cases h4

/-- One operation, its guard included, from whatever state knows what it looks at. -/
theorem gok_step {M : Av} {w : World} {ops : Array Oper} {o : Oper} {E : Env} {p : Pr} {a : Act} {K : Act → World → Prop} {Q : Exit → Act → World → Prop}
    (hg : GOK P I ops o E p) (he : EnvFor M w E o a) (hgu : ∀ j want d q, o.guard = some (j, want) → (ops[j]?).bind (·.dst) = some d → E.lookup d = some q → q.h M w (a.tmps.getD d undef))
    (hI : I.h M w) (k : ∀ v w', p.h M w' v → Below w.heap.size w w' → K (a.put o.dst v) w') :
    if Region.wanted o (yielded ops a.tmps) then o.wp P a w K Q ∨ (o.asks P a w ∧ LetsOut Q) else K (a.put o.dst undef) w := by
  unfold GOK at hg
  cases hgd : o.guard with
  | none =>
    rw [hgd] at hg
    rw [if_pos (wanted_none hgd)]
    exact .inl (gives_upon (hg M w a he hI) k)
  | some g =>
    obtain ⟨j, want⟩ := g
    rw [hgd] at hg
    obtain ⟨d, b, hj, hd, hyes, hno⟩ := hg
    have h1 := hgu j want d _ hgd hj hd
    have hy := yielded_ob (b := b) hj h1
    rw [wanted_some hgd hy]
    by_cases hb : b = some want
    · rw [if_pos (by simpa using hb)]
      exact .inl (gives_upon (hyes hb M w a he hI) k)
    · rw [if_neg (by simpa using hb)]
      have := hno hb
      subst this
      exact k _ _ rfl (Below.refl _ _)

/-! ### A region in the order of the text -/

theorem wpOps_of_ch {ops : Array Oper} {Q : Exit → Act → World → Prop} : ∀ (l : List Oper) (k : Nat) (E : Env), (∀ j, l[j]? = ops[k + j]?) →
    Ch P n I ops l E (fun E' => ∀ a w, St n E' I a w → Q .normal a w) → ∀ a w, St n E I a w → wpOps P ops Q (List.range' k l.length) a w
  | [], k, E, _, h, a, w, hs => h a w hs
  | o :: l, k, E, hl, h, a, w, hs => by
    have h0 : ops[k]? = some o := by simpa using (hl 0).symm
    obtain ⟨p, hg, hd, hr⟩ := h
    obtain ⟨M, hn, hdf, he, hI⟩ := hs
    simp only [List.length_cons, List.range'_succ, wpOps, h0]
    refine gok_step hg (looks_env he) (fun j want d q hgd hj hq => he d q hq) hI ?_
    · intro v w' hp hb
      refine wpOps_of_ch l (k + 1) _ (fun j => by have := hl (j + 1); simpa [Nat.add_assoc, Nat.add_comm 1 j] using this) hr _ _ ⟨M, ?_, ?_, ?_, I.st _ _ _ hb hI⟩
      · rw [put_size]; exact hn
      · rw [put_defers]; exact hdf
      · exact he.put hb hp (fun d h => by rw [hn]; exact hd d h)

theorem Tr.region0 {id : Nat} {l : List Oper} {E : Env} {Q : Exit → Act → World → Prop}
    (h : Ch P n I l.toArray l E (fun E' => ∀ a w, St n E' I a w → Q .normal a w)) : Tr P n E I (.region id l.toArray false) Q := by
  intro a w hs
  refine wp_region ?_
  have := wpOps_of_ch l 0 E (by simp) h a w hs
  simpa [List.range_eq_range'] using this

/-! ### A region that draws its order -/

def edge (o : Oper) (k : Nat) : Bool := o.after.any fun e => Region.binds .any e && e.on == k
def seen (ops : Array Oper) (o : Oper) : List Nat := looks o ++ (match o.guard with | some (g, _) => ((ops[g]?).bind (·.dst)).toList | none => [])
/-- Whatever order is drawn: each operation finds in its slots what it finds in the text's order. -/
def drawOk (l : List Oper) : Bool :=
  l.zipIdx.all fun (o, i) =>
    (o.after.all fun e => !Region.binds .any e || decide (e.on < i)) &&
    l.zipIdx.all fun (q, k) => k == i || match q.dst with
      | none => true
      | some s => o.dst != some s && (!(seen l.toArray o).contains s || (decide (k < i) && edge o k) || (decide (i < k) && edge q i))

def cur (sel : Nat → Bool) : Nat → List (Oper × Pr) → Env → Env
  | _, [], E => E
  | k, (o, p) :: L, E => cur sel (k + 1) L (if sel k then upd o p E else E)

theorem cur_miss {sel : Nat → Bool} {s : Nat} : ∀ (L : List (Oper × Pr)) (k : Nat) (E : Env), (∀ j o p, L[j]? = some (o, p) → sel (k + j) = true → o.dst ≠ some s) → (cur sel k L E).lookup s = E.lookup s
  | [], _, _, _ => rfl
  | (o, p) :: L, k, E, h => by
    unfold cur
    rw [cur_miss L (k + 1) _ (fun j o' p' hj hs => h (j + 1) o' p' (by simpa using hj) (by rwa [Nat.add_assoc, Nat.add_comm 1 j] at hs))]
    by_cases hs : sel k = true
    · rw [if_pos hs]
      have hne := h 0 o p rfl hs
      unfold upd
      cases hd : o.dst with
      | none => rfl
      | some d =>
        simp only [List.lookup]
        rw [hd] at hne
        rw [show (s == d) = false by simp; intro e; exact hne (by rw [e])]
    · rw [if_neg hs]

theorem cur_hit {sel : Nat → Bool} {s : Nat} : ∀ (L : List (Oper × Pr)) (k : Nat) (E : Env) (i : Nat) (o : Oper) (p : Pr), L[i]? = some (o, p) → sel (k + i) = true → o.dst = some s →
    (∀ j o' p', L[j]? = some (o', p') → j ≠ i → o'.dst ≠ some s) → (cur sel k L E).lookup s = some p
  | [], _, _, i, _, _, h, _, _, _ => by simp at h
  | (o', p') :: L, k, E, 0, o, p, h, hs, hd, hu => by
    simp only [List.getElem?_cons_zero, Option.some.injEq, Prod.mk.injEq] at h
    obtain ⟨rfl, rfl⟩ := h
    unfold cur
    rw [cur_miss L (k + 1) _ (fun j o2 p2 hj _ => hu (j + 1) o2 p2 (by simpa using hj) (by omega))]
    rw [if_pos (by simpa using hs)]
    unfold upd
    rw [hd]
    simp [List.lookup]
  | (o', p') :: L, k, E, i + 1, o, p, h, hs, hd, hu => by
    unfold cur
    exact cur_hit L (k + 1) _ i o p (by simpa using h) (by rwa [Nat.add_assoc, Nat.add_comm 1 i]) hd (fun j o2 p2 hj hne => hu (j + 1) o2 p2 (by simpa using hj) (by omega))

theorem ch_list {ops : Array Oper} {K : Env → Prop} : ∀ (l : List Oper) (k : Nat) (E : Env), Ch P n I ops l E K → ∃ L : List (Oper × Pr), L.map (·.1) = l ∧
    (∀ j o p, L[j]? = some (o, p) → GOK P I ops o (cur (fun i => decide (i < k + j)) k L E) p ∧ ∀ d, o.dst = some d → d < n) ∧ K (cur (fun _ => true) k L E)
  | [], k, E, h => ⟨[], rfl, fun j o p hj => by simp at hj, h⟩
  | o :: l, k, E, h => by
    obtain ⟨p, hg, hd, hr⟩ := h
    obtain ⟨L, h1, h2, h3⟩ := ch_list l (k + 1) _ hr
    refine ⟨(o, p) :: L, by simp [h1], fun j o' p' hj => ?_, by unfold cur; simpa using h3⟩
    cases j with
    | zero =>
      simp only [List.getElem?_cons_zero, Option.some.injEq, Prod.mk.injEq] at hj
      obtain ⟨rfl, rfl⟩ := hj
      refine ⟨?_, hd⟩
      unfold cur
      rw [if_neg (by simp)]
      have hc : cur (fun i => decide (i < k + 0)) (k + 1) L E = E := by
        have : ∀ (L : List (Oper × Pr)) (m : Nat) (E : Env), k ≤ m → cur (fun i => decide (i < k + 0)) m L E = E := by
          intro L
          induction L with
          | nil => intros; rfl
          | cons x L ih => intro m E hm; obtain ⟨o, p⟩ := x; unfold cur; rw [if_neg (by simp; omega)]; exact ih _ _ (by omega)
        exact this L (k + 1) E (by omega)
      rw [hc]; exact hg
    | succ j =>
      have := h2 j o' p' (by simpa using hj)
      unfold cur
      rw [if_pos (by simp)]
      rw [show k + (j + 1) = k + 1 + j by omega]
      exact this

theorem count_set {l : List Bool} {i : Nat} (h : l[i]? = some false) : (l.set i true).count false + 1 = l.count false := by
  induction l generalizing i with
  | nil => simp at h
  | cons b l ih =>
    cases i with
    | zero => simp at h; subst h; simp
    | succ i => simp at h; simp [List.count_cons, ← ih h]; omega

structure DJ (n : Nat) (I : Asn) (L : List (Oper × Pr)) (E : Env) (listed : Array Bool) (a : Act) (w : World) : Prop where
  size : listed.size = L.length
  down : ∀ (i k : Nat) o p, L[i]? = some (o, p) → listed.getD i false = true → edge o k = true → listed.getD k false = true
  st : ∃ M, a.tmps.size = n ∧ a.defers = [] ∧ EnvOK M w (cur (fun i => listed.getD i false) 0 L E) a ∧ I.h M w

theorem edge_spec {o : Oper} {k : Nat} : edge o k = true ↔ ∃ e ∈ o.after, Region.binds .any e = true ∧ e.on = k := by
  simp [edge, Array.any_eq_true, Array.mem_iff_getElem]
  constructor
  · rintro ⟨i, hi, h1, h2⟩; exact ⟨_, ⟨i, hi, rfl⟩, h1, h2⟩
  · rintro ⟨e, ⟨i, hi, rfl⟩, h1, h2⟩; exact ⟨i, hi, h1, h2⟩

theorem Tr.region1 (hm : P.follows .mixedOrders = true) {id : Nat} {l : List Oper} {E : Env} {Q : Exit → Act → World → Prop} (hB : drawOk l = true)
    (h : Ch P n I l.toArray l E (fun E' => ∀ a w, St n E' I a w → Q .normal a w)) : Tr P n E I (.region id l.toArray true) Q := by
  intro a w hs
  obtain ⟨L, h1, h2, h3⟩ := ch_list l 0 E h
  have hlen : L.length = l.length := by rw [← h1]; simp
  have hL : ∀ (i : Nat) o, l.toArray[i]? = some o → ∃ p, L[i]? = some (o, p) := by
    intro i o ho
    have : l[i]? = some o := by simpa using ho
    rw [← h1, List.getElem?_map] at this
    cases hx : L[i]? with
    | none => rw [hx] at this; simp at this
    | some x => rw [hx] at this; simp at this; exact ⟨x.2, by rw [← this]⟩
  have hL' : ∀ (i : Nat) o p, L[i]? = some (o, p) → l[i]? = some o := by
    intro i o p hi
    rw [← h1, List.getElem?_map, hi]; rfl
  -- what the check says
  have hB1 : ∀ (i : Nat) o, l[i]? = some o → (∀ e ∈ o.after, Region.binds .any e = true → e.on < i) ∧
      ∀ (k : Nat) q s, l[k]? = some q → k ≠ i → q.dst = some s → o.dst ≠ some s ∧ (s ∈ seen l.toArray o → (k < i ∧ edge o k = true) ∨ (i < k ∧ edge q i = true)) := by
    intro i o ho
    unfold drawOk at hB
    rw [List.all_eq_true] at hB
    have hb := hB (o, i) (by rw [List.mem_zipIdx_iff_getElem?]; exact ho)
    simp only [Bool.and_eq_true] at hb
    refine ⟨fun e he hbd => ?_, fun k q s hk hne hd => ?_⟩
    · have := Array.all_eq_true_iff_forall_mem.1 hb.1 e he
      rw [hbd] at this; simpa using this
    · have := List.all_eq_true.1 hb.2 (q, k) (by rw [List.mem_zipIdx_iff_getElem?]; exact hk)
      simp only [hd, Bool.or_eq_true, Bool.and_eq_true] at this
      rcases this with h | h
      · exact absurd (by simpa using h) hne
      · refine ⟨by simpa using h.1, fun hs => ?_⟩
        rcases h.2 with (h' | h') | h'
        · have hc : (seen l.toArray o).contains s = true := by simpa using hs
          rw [hc] at h'; cases h'
        · exact .inl ⟨by simpa using h'.1, h'.2⟩
        · exact .inr ⟨by simpa using h'.1, h'.2⟩
  refine wp_region_any hm ?_
  -- the induction
  have key : ∀ (fuel : Nat) (listed : Array Bool) (a : Act) (w : World), listed.toList.count false ≤ fuel → DJ n I L E listed a w → wpAny P .any l.toArray Q fuel listed a w := by
    intro fuel
    -- all are listed where nothing is ready
    have fin : ∀ (listed : Array Bool) (a : Act) (w : World), DJ n I L E listed a w → (∀ i, i < L.length → listed.getD i false = true) → Q .normal a w := by
      intro listed a w hJ hall
      obtain ⟨M, hn, hdf, he, hI⟩ := hJ.st
      refine h3 a w ⟨M, hn, hdf, ?_, hI⟩
      have : cur (fun i => listed.getD i false) 0 L E = cur (fun _ => true) 0 L E := by
        have : ∀ (L' : List (Oper × Pr)) (k : Nat) (E : Env), k + L'.length ≤ L.length → cur (fun i => listed.getD i false) k L' E = cur (fun _ => true) k L' E := by
          intro L'
          induction L' with
          | nil => intros; rfl
          | cons x L' ih =>
            intro k E hk
            obtain ⟨o, p⟩ := x
            simp only [List.length_cons] at hk
            unfold cur
            rw [hall k (by omega), ih _ _ (by omega)]
        exact this L 0 E (by omega)
      rwa [this] at he
    have ready_nil : ∀ (listed : Array Bool) (a : Act) (w : World), DJ n I L E listed a w → Region.ready .any l.toArray listed = [] → ∀ i, i < L.length → listed.getD i false = true := by
      intro listed a w hJ hr i
      induction i using Nat.strongRecOn with
      | _ i ih =>
        intro hi
        cases hli : listed.getD i false with
        | true => rfl
        | false =>
          exfalso
          have hil : i < l.length := by omega
          have hmem : i ∈ Region.ready .any l.toArray listed := by
            refine mem_ready.2 ⟨?_, l[i], by simp [hil], fun e he hb => ?_⟩
            · have : i < listed.size := by rw [hJ.size]; exact hi
              rw [Array.getD_eq_getD_getElem?, Array.getElem?_eq_getElem this] at hli ⊢
              simpa using hli
            · have := (hB1 i l[i] (by simp [hil])).1 e he hb
              exact ih e.on this (by omega)
          rw [hr] at hmem
          cases hmem
    induction fuel with
    | zero =>
      intro listed a w hc hJ
      have hall : ∀ i, i < L.length → listed.getD i false = true := by
        intro i hi
        have hsz := hJ.size
        have h0 : false ∉ listed.toList := by
          have : listed.toList.count false = 0 := by omega
          exact List.count_eq_zero.1 this
        cases hli : listed.getD i false with
        | true => rfl
        | false =>
          exfalso
          have : i < listed.size := by omega
          rw [Array.getD_eq_getD_getElem?, Array.getElem?_eq_getElem this] at hli
          apply h0
          simp at hli
          rw [← hli]
          exact Array.getElem_mem_toList this
      refine ⟨?_, fin listed a w hJ hall⟩
      cases hr : Region.ready .any l.toArray listed with
      | nil => rfl
      | cons i r =>
        exfalso
        have hi : i ∈ Region.ready .any l.toArray listed := by rw [hr]; simp
        obtain ⟨hu, o, ho, _⟩ := mem_ready.1 hi
        obtain ⟨p, hp⟩ := hL i o ho
        have hil : i < L.length := by rcases Nat.lt_or_ge i L.length with h | h; exact h; rw [List.getElem?_eq_none h] at hp; cases hp
        have h5 := hall i hil
        have : i < listed.size := by rw [hJ.size]; exact hil
        rw [Array.getD_eq_getD_getElem?, Array.getElem?_eq_getElem this] at hu h5
        simp at hu h5
        rw [hu] at h5; cases h5
    | succ fuel ih =>
      intro listed a w hc hJ
      refine ⟨fun hr => fin listed a w hJ (ready_nil listed a w hJ hr), fun i hi => ?_⟩
      obtain ⟨hu, o, ho, hall⟩ := mem_ready.1 hi
      obtain ⟨p, hp⟩ := hL i o ho
      have ho' : l[i]? = some o := hL' i o p hp
      have hil : i < L.length := by rcases Nat.lt_or_ge i L.length with h | h; exact h; rw [List.getElem?_eq_none h] at hp; cases hp
      have his : i < listed.size := by rw [hJ.size]; exact hil
      have hu0 : listed.getD i false = false := by
        rw [Array.getD_eq_getD_getElem?, Array.getElem?_eq_getElem his] at hu ⊢; simpa using hu
      have hpre : ∀ k, edge o k = true → listed.getD k false = true := by
        intro k hk
        obtain ⟨e, he, hb, rfl⟩ := edge_spec.1 hk
        exact hall e he hb
      obtain ⟨hg, hdn⟩ := h2 i o p hp
      rw [Nat.zero_add] at hg
      obtain ⟨M, hn, hdf, he, hI⟩ := hJ.st
      -- what is looked at reads as in the text's order
      have hsame : ∀ s, s ∈ seen l.toArray o → (cur (fun j => decide (j < i)) 0 L E).lookup s = (cur (fun j => listed.getD j false) 0 L E).lookup s := by
        intro s hs
        by_cases hw : ∃ k q r, L[k]? = some (q, r) ∧ k ≠ i ∧ q.dst = some s
        · obtain ⟨k, q, r, hk, hki, hd⟩ := hw
          have huniq : ∀ (j : Nat) o' p', L[j]? = some (o', p') → j ≠ k → o'.dst ≠ some s := by
            intro j o' p' hj hjk
            exact ((hB1 j o' (hL' j o' p' hj)).2 k q s (hL' k q r hk) (Ne.symm hjk) hd).1
          rcases ((hB1 i o ho').2 k q s (hL' k q r hk) hki hd).2 hs with ⟨h5, h6⟩ | ⟨h5, h6⟩
          · rw [cur_hit L 0 E k q r hk (by simpa using h5) hd huniq, cur_hit L 0 E k q r hk (by simpa using hpre k h6) hd huniq]
          · have hnk : listed.getD k false = false := by
              cases hlk : listed.getD k false with
              | false => rfl
              | true => have := hJ.down k i q r hk hlk h6; rw [hu0] at this; cases this
            rw [cur_miss L 0 E, cur_miss L 0 E]
            · intro j o' p' hj hsel hd'
              by_cases hjk : j = k
              · subst hjk; rw [Nat.zero_add, hnk] at hsel; cases hsel
              · exact huniq j o' p' hj hjk hd'
            · intro j o' p' hj hsel hd'
              by_cases hjk : j = k
              · subst hjk; simp at hsel; omega
              · exact huniq j o' p' hj hjk hd'
        · rw [cur_miss L 0 E, cur_miss L 0 E]
          · intro j o' p' hj hsel hd'
            by_cases hji : j = i
            · subst hji; rw [Nat.zero_add, hu0] at hsel; cases hsel
            · exact hw ⟨j, o', p', hj, hji, hd'⟩
          · intro j o' p' hj hsel hd'
            by_cases hji : j = i
            · subst hji; simp at hsel
            · exact hw ⟨j, o', p', hj, hji, hd'⟩
      unfold wpOp
      rw [ho]
      refine gok_step hg (fun s q hs hq => ?_) (fun j want d q hgd hj hq => ?_) hI ?_
      · rw [hsame s (by unfold seen; simp [hs])] at hq
        exact he s q hq
      · have hds : d ∈ seen l.toArray o := by unfold seen; rw [hgd]; exact List.mem_append.2 (.inr (by show d ∈ ((l.toArray[j]?).bind (·.dst)).toList; rw [hj]; simp))
        rw [hsame d hds] at hq
        exact he d q hq
      · intro v w' hpv hb
        refine ih _ _ _ ?_ ⟨by simpa using hJ.size, ?_, M, by rw [put_size]; exact hn, by rw [put_defers]; exact hdf, ?_, I.st _ _ _ hb hI⟩
        · have h7 : listed.toList[i]? = some false := by
            rw [Array.getElem?_toList, Array.getElem?_eq_getElem his]
            rw [Array.getD_eq_getD_getElem?, Array.getElem?_eq_getElem his] at hu0
            simpa using hu0
          have h8 := count_set h7
          rw [Array.toList_setIfInBounds]
          omega
        · intro j k o' p' hj hlj hek
          have hset : ∀ m, (listed.setIfInBounds i true).getD m false = (if m = i then true else listed.getD m false) := by
            intro m
            rw [Array.getD_eq_getD_getElem?, Array.getElem?_setIfInBounds]
            by_cases hm : i = m
            · subst hm; simp [his]
            · rw [if_neg hm, if_neg (Ne.symm hm), Array.getD_eq_getD_getElem?]
          rw [hset] at hlj ⊢
          by_cases hki : k = i
          · simp [hki]
          · rw [if_neg hki]
            by_cases hji : j = i
            · subst hji
              rw [hp] at hj
              cases hj
              exact hpre k hek
            · rw [if_neg hji] at hlj
              exact hJ.down j k o' p' hj hlj hek
        · -- the environment
          intro s q hq
          have hset : ∀ m, (listed.setIfInBounds i true).getD m false = (if m = i then true else listed.getD m false) := by
            intro m
            rw [Array.getD_eq_getD_getElem?, Array.getElem?_setIfInBounds]
            by_cases hm : i = m
            · subst hm; simp [his]
            · rw [if_neg hm, if_neg (Ne.symm hm), Array.getD_eq_getD_getElem?]
          by_cases hds : o.dst = some s
          · rw [cur_hit L 0 E i o p hp (by rw [Nat.zero_add, hset]; simp) hds
              (fun j o' p' hj hji => ((hB1 j o' (hL' j o' p' hj)).2 i o s ho' (Ne.symm hji) hds).1)] at hq
            cases hq
            rw [hds, put_same (by rw [hn]; exact hdn s hds)]
            exact hpv
          · have hq2 : (cur (fun j => listed.getD j false) 0 L E).lookup s = some q := by
              rw [← hq]
              by_cases hw : ∃ k q r, L[k]? = some (q, r) ∧ q.dst = some s ∧ listed.getD k false = true
              · obtain ⟨k, q', r, hk, hd, hlk⟩ := hw
                have huniq : ∀ (j : Nat) o' p', L[j]? = some (o', p') → j ≠ k → o'.dst ≠ some s := by
                  intro j o' p' hj hjk
                  exact ((hB1 j o' (hL' j o' p' hj)).2 k q' s (hL' k q' r hk) (Ne.symm hjk) hd).1
                rw [cur_hit L 0 E k q' r hk (by simpa using hlk) hd huniq, cur_hit L 0 E k q' r hk (by rw [Nat.zero_add, hset]; split; rfl; exact hlk) hd huniq]
              · rw [cur_miss L 0 E, cur_miss L 0 E]
                · intro j o' p' hj hsel hd'
                  rw [Nat.zero_add, hset] at hsel
                  by_cases hji : j = i
                  · subst hji; rw [hp] at hj; cases hj; exact hds hd'
                  · rw [if_neg hji] at hsel; exact hw ⟨j, o', p', hj, hd', hsel⟩
                · intro j o' p' hj hsel hd'
                  rw [Nat.zero_add] at hsel
                  exact hw ⟨j, o', p', hj, hd', hsel⟩
            have hv := he s q hq2
            have : (a.put o.dst v).tmps.getD s undef = a.tmps.getD s undef := by
              cases hd : o.dst with
              | none => rfl
              | some d => exact put_other (fun e => hds (by rw [hd, e]))
            rw [this]
            exact q.st _ _ _ _ _ (Ext.below hb) hv
  refine key l.length _ a _ ?_ ⟨by simp [hlen], ?_, ?_⟩
  · simp [List.count_replicate]
  · intro i k o p hp hl
    exfalso
    rw [Array.getD_eq_getD_getElem?, Array.getElem?_replicate] at hl
    split at hl <;> simp at hl
  · obtain ⟨M, hn, hdf, he, hI⟩ := hs
    have hb : Below w.heap.size w { w with drawn := w.drawn + 1 } := ⟨rfl, rfl, rfl, Nat.le_refl _, fun _ _ => rfl⟩
    refine ⟨M, hn, hdf, ?_, I.st _ _ _ hb hI⟩
    intro s q hq
    rw [cur_miss L 0 E] at hq
    · exact q.st _ _ _ _ _ (Ext.below hb) (he s q hq)
    · intro j o p hj hsel
      exfalso
      rw [Array.getD_eq_getD_getElem?, Array.getElem?_replicate] at hsel
      split at hsel <;> simp at hsel

end
end Cp
