/-
  The rule for a region that draws its order and writes to memory of ours.
-/
import Derived.Test.YthmnoekgicggnaaGreatCoreG
namespace Cp
open Go Go.RowKit

section
variable {P : Program} {n : Nat} {M0 : Av} {w0 : World} {S : Nat → Prop}

structure DX (n : Nat) (M0 : Av) (w0 : World) (S : Nat → Prop) (L : List X) (E : Env) (rs : List SR) (listed : Array Bool) (a : Act) (w : World) : Prop where
  size : listed.size = L.length
  down : ∀ (i : Nat) x, L[i]? = some x → listed.getD i false = true → ∀ e ∈ x.o.after, Region.binds .any e = true → listed.getD e.on false = true
  st : StX n M0 w0 S (curX (fun i => listed.getD i false) 0 L E) (curR (fun i => listed.getD i false) 0 L rs) a w

theorem drawOkX_spec {l : List Oper} {ks : List KN} (hB : drawOkX l ks = true) {i : Nat} {o : Oper} {k : KN} (hi : (l.zip ks)[i]? = some (o, k)) :
    (∀ e ∈ o.after, Region.binds .any e = true → e.on < i) ∧ ∀ (m : Nat) q kq, (l.zip ks)[m]? = some (q, kq) → m ≠ i →
      (∀ s, q.dst = some s → o.dst ≠ some s ∧ (s ∈ seenX l.toArray o k → before2 (befs l) i m = true)) ∧
      (∀ s j w s' c s'', k = some (s, j, w, s') → kq = some (c, j, true, s'') → before2 (befs l) i m = true) ∧
      (∀ c j s', kq = some (c, j, true, s') → o.dst ≠ some s' ∨ (i < m ∧ before2 (befs l) i m = true)) := by
  unfold drawOkX at hB
  rw [List.all_eq_true] at hB
  have hb := hB ((o, k), i) (by rw [List.mem_zipIdx_iff_getElem?]; exact hi)
  simp only [Bool.and_eq_true] at hb
  refine ⟨fun e he hbd => ?_, fun m q kq hm hne => ?_⟩
  · have := Array.all_eq_true_iff_forall_mem.1 hb.1 e he
    rw [hbd] at this; simpa using this
  · have := List.all_eq_true.1 hb.2 ((q, kq), m) (by rw [List.mem_zipIdx_iff_getElem?]; exact hm)
    simp only [Bool.or_eq_true, Bool.and_eq_true] at this
    rcases this with h | ⟨⟨h1, h2⟩, h3⟩
    · exact absurd (by simpa using h) hne
    · refine ⟨fun s hs => ?_, fun s j w s' c s'' hk hkq => ?_, fun c j s' hkq => ?_⟩
      · rw [hs] at h1
        simp only [Bool.and_eq_true, Bool.or_eq_true] at h1
        refine ⟨by simpa using h1.1, fun hmem => ?_⟩
        rcases h1.2 with h | h
        · have hc : (seenX l.toArray o k).contains s = true := by simpa using hmem
          rw [hc] at h; cases h
        · exact h
      · subst hk; subst hkq
        simpa using h2
      · subst hkq
        simpa using h3

theorem Tr.regX (hm : P.follows .mixedOrders = true) {id : Nat} {l : List Oper} {E : Env} {rs0 : List Res} {Q : Exit → Act → World → Prop} (ks : List KN) (hB : drawOkX l ks = true)
    (h : Cx P M0 w0 S n l.toArray l E (rs0.map SR.c) (fun L E' rs' => L.map (·.k.nums) = ks ∧ FinX n M0 w0 S E' rs' Q)) : Tr P n E (Hp M0 w0 S rs0) (.region id l.toArray true) Q := by
  intro a w hs
  obtain ⟨L, h1, h2, hks, h3⟩ := cx_list l 0 E _ h
  have hlen : L.length = l.length := by rw [← h1]; simp
  have hz : ∀ (i : Nat) x, L[i]? = some x → (l.zip ks)[i]? = some (x.o, x.k.nums) := by
    intro i x hx
    rw [← h1, ← hks, List.getElem?_zip_eq_some]
    simp [List.getElem?_map, hx]
  have hL : ∀ (i : Nat) o, l.toArray[i]? = some o → ∃ x, L[i]? = some x ∧ x.o = o := by
    intro i o ho
    have : l[i]? = some o := by simpa using ho
    rw [← h1, List.getElem?_map] at this
    cases hx : L[i]? with
    | none => rw [hx] at this; simp at this
    | some x => rw [hx] at this; simp at this; exact ⟨x, rfl, this⟩
  have hL' : ∀ (i : Nat) x, L[i]? = some x → l[i]? = some x.o := by
    intro i x hi
    rw [← h1, List.getElem?_map, hi]; rfl
  have hB1 := fun (i : Nat) x (hx : L[i]? = some x) => drawOkX_spec hB (hz i x hx)
  refine wp_region_any hm ?_
  have hlt : ∀ (i : Nat) x, L[i]? = some x → i < L.length := by
    intro i x hx
    rcases Nat.lt_or_ge i L.length with h | h
    · exact h
    · rw [List.getElem?_eq_none h] at hx; cases hx
  have key : ∀ (fuel : Nat) (listed : Array Bool) (a : Act) (w : World), listed.toList.count false ≤ fuel → DX n M0 w0 S L E (rs0.map SR.c) listed a w → wpAny P .any l.toArray Q fuel listed a w := by
    intro fuel
    have fin : ∀ (listed : Array Bool) (a : Act) (w : World), DX n M0 w0 S L E (rs0.map SR.c) listed a w → (∀ i, i < L.length → listed.getD i false = true) → Q .normal a w := by
      intro listed a w hJ hall
      have hx : ∀ (L' : List X) (k : Nat) (E : Env) (rs : List SR), k + L'.length ≤ L.length → curX (fun i => listed.getD i false) k L' E = curX (fun _ => true) k L' E ∧ curR (fun i => listed.getD i false) k L' rs = curR (fun _ => true) k L' rs := by
        intro L'
        induction L' with
        | nil => intros; exact ⟨rfl, rfl⟩
        | cons x L' ih =>
          intro k E rs hk
          simp only [List.length_cons] at hk
          unfold curX curR
          rw [hall k (by omega)]
          exact ih _ _ _ (by omega)
      have hst := hJ.st
      rw [(hx L 0 E (rs0.map SR.c) (by omega)).1, (hx L 0 E (rs0.map SR.c) (by omega)).2] at hst
      exact h3 a w hst
    have ready_nil : ∀ (listed : Array Bool) (a : Act) (w : World), DX n M0 w0 S L E (rs0.map SR.c) listed a w → Region.ready .any l.toArray listed = [] → ∀ i, i < L.length → listed.getD i false = true := by
      intro listed a w hJ hr i
      induction i using Nat.strongRecOn with
      | _ i ih =>
        intro hi
        cases hli : listed.getD i false with
        | true => rfl
        | false =>
          exfalso
          have hil : i < l.length := by omega
          obtain ⟨x, hx, hxo⟩ := hL i l[i] (by simp [hil])
          have hmem : i ∈ Region.ready .any l.toArray listed := by
            refine mem_ready.2 ⟨?_, l[i], by simp [hil], fun e he hb => ?_⟩
            · have : i < listed.size := by rw [hJ.size]; exact hi
              rw [Array.getD_eq_getD_getElem?, Array.getElem?_eq_getElem this] at hli ⊢
              simpa using hli
            · have := (hB1 i x hx).1 e (by rw [hxo]; exact he) hb
              exact ih e.on this (by omega)
          rw [hr] at hmem
          cases hmem
    induction fuel with
    | zero =>
      intro listed a w hc hJ
      have hall : ∀ i, i < L.length → listed.getD i false = true := by
        intro i hi
        have hsz := hJ.size
        have h0 : false ∉ listed.toList := by
          have : listed.toList.count false = 0 := by omega
          exact List.count_eq_zero.1 this
        cases hli : listed.getD i false with
        | true => rfl
        | false =>
          exfalso
          have : i < listed.size := by omega
          rw [Array.getD_eq_getD_getElem?, Array.getElem?_eq_getElem this] at hli
          apply h0
          simp at hli
          rw [← hli]
          exact Array.getElem_mem_toList this
      refine ⟨?_, fin listed a w hJ hall⟩
      cases hr : Region.ready .any l.toArray listed with
      | nil => rfl
      | cons i r =>
        exfalso
        have hi : i ∈ Region.ready .any l.toArray listed := by rw [hr]; simp
        obtain ⟨hu, o, ho, _⟩ := mem_ready.1 hi
        obtain ⟨x, hx, _⟩ := hL i o ho
        have hil := hlt i x hx
        have h5 := hall i hil
        have : i < listed.size := by rw [hJ.size]; exact hil
        rw [Array.getD_eq_getD_getElem?, Array.getElem?_eq_getElem this] at hu h5
        simp at hu h5
        rw [hu] at h5; cases h5
    | succ fuel ih =>
      intro listed a w hc hJ
      refine ⟨fun hr => fin listed a w hJ (ready_nil listed a w hJ hr), fun i hi => ?_⟩
      obtain ⟨hu, o, ho, hall⟩ := mem_ready.1 hi
      obtain ⟨x, hx, rfl⟩ := hL i o ho
      have hil := hlt i x hx
      have his : i < listed.size := by rw [hJ.size]; exact hil
      have hu0 : listed.getD i false = false := by
        rw [Array.getD_eq_getD_getElem?, Array.getElem?_eq_getElem his] at hu ⊢; simpa using hu
      have hdownO : ∀ (j : Nat) o, l[j]? = some o → listed.getD j false = true → ∀ e ∈ o.after, Region.binds .any e = true → listed.getD e.on false = true := by
        intro j o' ho' hlj
        obtain ⟨y, hy, rfl⟩ := hL j o' (by simpa using ho')
        exact hJ.down j y hy hlj
      -- what stands before i is listed; what stands behind it is not
      have hbef : ∀ m, before2 (befs l) i m = true → (listed.getD m false = decide (m < i)) := by
        intro m hb
        unfold before2 at hb
        simp only [Bool.or_eq_true, Bool.and_eq_true, decide_eq_true_eq] at hb
        rcases hb with ⟨hmi, hbit⟩ | ⟨him, hbit⟩
        · rw [befs_spec (fun j => listed.getD j false = true) l hdownO i x.o (hL' i x hx) hall m hbit]
          simpa using hmi
        · have hn : listed.getD m false = false := by
            cases hlm : listed.getD m false with
            | false => rfl
            | true =>
              have hml : m < L.length := by
                rcases Nat.lt_or_ge m L.length with h | h
                · exact h
                · rw [Array.getD_eq_getD_getElem?, Array.getElem?_eq_none (by rw [hJ.size]; exact h)] at hlm; cases hlm
              have hmo : l[m]? = some L[m].o := hL' m L[m] (List.getElem?_eq_getElem hml)
              have := befs_spec (fun j => listed.getD j false = true) l hdownO m _ hmo (hdownO m _ hmo hlm) i hbit
              rw [hu0] at this; cases this
          rw [hn]; simp; omega
      obtain ⟨hxok, hdn⟩ := h2 i x hx
      rw [Nat.zero_add] at hxok
      obtain ⟨M, hn, hdf, he, hI⟩ := hJ.st
      have hsame : ∀ s, s ∈ seenX l.toArray x.o x.k.nums → (curX (fun j => decide (j < i)) 0 L E).lookup s = (curX (fun j => listed.getD j false) 0 L E).lookup s := by
        intro s hs
        rw [curX_cur, curX_cur]
        by_cases hw : ∃ m y, L[m]? = some y ∧ m ≠ i ∧ y.o.dst = some s
        · obtain ⟨m, y, hm', hmi, hd⟩ := hw
          have huniq : ∀ (j : Nat) o' p', (L.map fun x => (x.o, x.p))[j]? = some (o', p') → j ≠ m → o'.dst ≠ some s := by
            intro j o' p' hj hjm
            rw [List.getElem?_map] at hj
            cases hz' : L[j]? with
            | none => rw [hz'] at hj; cases hj
            | some z =>
              rw [hz'] at hj
              simp only [Option.map_some, Option.some.injEq, Prod.mk.injEq] at hj
              rw [← hj.1]
              exact (((hB1 j z hz').2 m y.o y.k.nums (hz m y hm') (Ne.symm hjm)).1 s hd).1
          have hb := (((hB1 i x hx).2 m y.o y.k.nums (hz m y hm') hmi).1 s hd).2 hs
          have hsel := hbef m hb
          have hmm : (L.map fun x => (x.o, x.p))[m]? = some (y.o, y.p) := by rw [List.getElem?_map, hm']; rfl
          by_cases hmi2 : m < i
          · rw [cur_hit _ 0 E m _ _ hmm (by simpa using hmi2) hd huniq, cur_hit _ 0 E m _ _ hmm (by rw [Nat.zero_add, hsel]; simpa using hmi2) hd huniq]
          · rw [cur_miss, cur_miss]
            · intro j o' p' hj hselj hd'
              by_cases hjm : j = m
              · subst hjm; rw [Nat.zero_add, hsel] at hselj; simp at hselj; omega
              · exact huniq j o' p' hj hjm hd'
            · intro j o' p' hj hselj hd'
              by_cases hjm : j = m
              · subst hjm; simp at hselj; omega
              · exact huniq j o' p' hj hjm hd'
        · have hno : ∀ (j : Nat) o' p', (L.map fun x => (x.o, x.p))[j]? = some (o', p') → j ≠ i → o'.dst ≠ some s := by
            intro j o' p' hj hji hd'
            rw [List.getElem?_map] at hj
            cases hz' : L[j]? with
            | none => rw [hz'] at hj; cases hj
            | some z =>
              rw [hz'] at hj
              simp only [Option.map_some, Option.some.injEq, Prod.mk.injEq] at hj
              exact hw ⟨j, z, hz', hji, by rw [hj.1]; exact hd'⟩
          rw [cur_miss, cur_miss]
          · intro j o' p' hj hsel hd'
            by_cases hji : j = i
            · subst hji; rw [Nat.zero_add, hu0] at hsel; cases hsel
            · exact hno j o' p' hj hji hd'
          · intro j o' p' hj hsel hd'
            by_cases hji : j = i
            · subst hji; simp at hsel
            · exact hno j o' p' hj hji hd'
      have hwr : ∀ (m : Nat) y j, L[m]? = some y → y.k.wr = some j → x.k.res = some j → m ≠ i → listed.getD m false = decide (m < i) := by
        intro m y j hm' hyw hxr hmi
        refine hbef m (((hB1 i x hx).2 m y.o y.k.nums (hz m y hm') hmi).2.1 ?_ ?_ ?_ ?_ ?_ ?_ ?_ ?_)
        · exact (match x.k with | .pure => 0 | .rd _ R => R.s | .ef _ R _ => R.s)
        · exact j
        · exact (match x.k with | .ef .. => true | _ => false)
        · exact (match x.k with | .ef _ _ R' => R'.s | _ => 0)
        · exact (match y.k with | .ef _ R _ => R.s | _ => 0)
        · exact (match y.k with | .ef _ _ R' => R'.s | _ => 0)
        · cases hk : x.k <;> rw [hk] at hxr <;> simp [Kind.res] at hxr <;> subst hxr <;> simp [Kind.nums]
        · cases hk : y.k <;> rw [hk] at hyw <;> simp [Kind.wr] at hyw; subst hyw; simp [Kind.nums]
      have hres : ∀ j, x.k.res = some j → (curR (fun m => decide (m < i)) 0 L (rs0.map SR.c))[j]? = (curR (fun m => listed.getD m false) 0 L (rs0.map SR.c))[j]? := by
        intro j hj
        refine curR_agree L 0 _ _ rfl rfl fun m y hm' hyw => ?_
        rw [Nat.zero_add]
        by_cases hmi : m = i
        · subst hmi; rw [hu0]; simp
        · rw [hwr m y j hm' hyw hj hmi]
      have henv : EnvFor M w (curX (fun j => decide (j < i)) 0 L E) x.o a := fun s q hs hq => by
        rw [hsame s (by unfold seenX seen; simp [hs])] at hq
        exact he s q hq
      have hgu : ∀ j want d q, x.o.guard = some (j, want) → (l.toArray[j]?).bind (·.dst) = some d → (curX (fun j => decide (j < i)) 0 L E).lookup d = some q → q.h M w (a.tmps.getD d undef) := by
        intro j want d q hgd hj hq
        have hds : d ∈ seenX l.toArray x.o x.k.nums := by
          unfold seenX seen; rw [hgd]
          exact List.mem_append.2 (.inl (List.mem_append.2 (.inr (by show d ∈ ((l.toArray[j]?).bind (·.dst)).toList; rw [hj]; simp))))
        rw [hsame d hds] at hq
        exact he d q hq
      have hset : ∀ m, (listed.setIfInBounds i true).getD m false = (if m = i then true else listed.getD m false) := by
        intro m
        rw [Array.getD_eq_getD_getElem?, Array.getElem?_setIfInBounds]
        by_cases hm : i = m
        · subst hm; simp [his]
        · rw [if_neg hm, if_neg (Ne.symm hm), Array.getD_eq_getD_getElem?]
      have hcount : (listed.setIfInBounds i true).toList.count false ≤ fuel := by
        have h7 : listed.toList[i]? = some false := by
          rw [Array.getElem?_toList, Array.getElem?_eq_getElem his]
          rw [Array.getD_eq_getD_getElem?, Array.getElem?_eq_getElem his] at hu0
          simpa using hu0
        have h8 := count_set h7
        rw [Array.toList_setIfInBounds]
        omega
      have hdown' : ∀ (j : Nat) y, L[j]? = some y → (listed.setIfInBounds i true).getD j false = true → ∀ e ∈ y.o.after, Region.binds .any e = true → (listed.setIfInBounds i true).getD e.on false = true := by
        intro j y hj hlj e he' hb
        rw [hset] at hlj ⊢
        by_cases hki : e.on = i
        · simp [hki]
        · rw [if_neg hki]
          by_cases hji : j = i
          · subst hji
            rw [hx] at hj
            cases hj
            exact hall e he' hb
          · rw [if_neg hji] at hlj
            exact hJ.down j y hj hlj e he' hb
      have henv' : ∀ (v : Value) (M' : Av) (w' : World), x.p.h M' w' v → Ext M w M' w' → EnvOK M' w' (curX (fun j => (listed.setIfInBounds i true).getD j false) 0 L E) (a.put x.o.dst v) := by
        intro v M' w' hpv hext s q hq
        have hxm : (L.map fun x => (x.o, x.p))[i]? = some (x.o, x.p) := by rw [List.getElem?_map, hx]; rfl
        have hgetm : ∀ (j : Nat) o' p', (L.map fun x => (x.o, x.p))[j]? = some (o', p') → ∃ y, L[j]? = some y ∧ y.o = o' ∧ y.p = p' := by
          intro j o' p' hj
          rw [List.getElem?_map] at hj
          cases hz' : L[j]? with
          | none => rw [hz'] at hj; cases hj
          | some z =>
            rw [hz'] at hj
            simp only [Option.map_some, Option.some.injEq, Prod.mk.injEq] at hj
            exact ⟨z, rfl, hj.1, hj.2⟩
        rw [curX_cur] at hq
        by_cases hds : x.o.dst = some s
        · rw [cur_hit _ 0 E i _ _ hxm (by rw [Nat.zero_add, hset]; simp) hds
            (fun j o' p' hj hji => by
              obtain ⟨y, hy, rfl, _⟩ := hgetm j o' p' hj
              exact (((hB1 j y hy).2 i x.o x.k.nums (hz i x hx) (Ne.symm hji)).1 s hds).1)] at hq
          cases hq
          rw [hds, put_same (by rw [hn]; exact hdn s hds)]
          exact hpv
        · have hq2 : (curX (fun j => listed.getD j false) 0 L E).lookup s = some q := by
            rw [curX_cur, ← hq]
            by_cases hw : ∃ k y, L[k]? = some y ∧ y.o.dst = some s ∧ listed.getD k false = true
            · obtain ⟨k, y, hk, hd, hlk⟩ := hw
              have hkm : (L.map fun x => (x.o, x.p))[k]? = some (y.o, y.p) := by rw [List.getElem?_map, hk]; rfl
              have huniq : ∀ (j : Nat) o' p', (L.map fun x => (x.o, x.p))[j]? = some (o', p') → j ≠ k → o'.dst ≠ some s := by
                intro j o' p' hj hjk
                obtain ⟨z, hz', rfl, _⟩ := hgetm j o' p' hj
                exact (((hB1 j z hz').2 k y.o y.k.nums (hz k y hk) (Ne.symm hjk)).1 s hd).1
              rw [cur_hit _ 0 E k _ _ hkm (by simpa using hlk) hd huniq, cur_hit _ 0 E k _ _ hkm (by rw [Nat.zero_add, hset]; split; rfl; exact hlk) hd huniq]
            · rw [cur_miss, cur_miss]
              · intro j o' p' hj hsel hd'
                obtain ⟨z, hz', rfl, _⟩ := hgetm j o' p' hj
                rw [Nat.zero_add, hset] at hsel
                by_cases hji : j = i
                · subst hji; rw [hx] at hz'; cases hz'; exact hds hd'
                · rw [if_neg hji] at hsel; exact hw ⟨j, z, hz', hd', hsel⟩
              · intro j o' p' hj hsel hd'
                obtain ⟨z, hz', rfl, _⟩ := hgetm j o' p' hj
                rw [Nat.zero_add] at hsel
                exact hw ⟨j, z, hz', hd', hsel⟩
          have hv := he s q hq2
          have : (a.put x.o.dst v).tmps.getD s undef = a.tmps.getD s undef := by
            cases hd : x.o.dst with
            | none => rfl
            | some d => exact put_other (fun e => hds (by rw [hd, e]))
          rw [this]
          exact q.st _ _ _ _ _ hext hv
      -- words on resources do not hang on the slot that is written now
      have hatp : ∀ (v : Value) (R : SR) (j : Nat), (curR (fun m => listed.getD m false) 0 L (rs0.map SR.c))[j]? = some R → R.at_ (a.put x.o.dst v) = R.at_ a := by
        intro v R j hR
        rcases curR_from L 0 _ hR with h | ⟨m, y, R0, hm', hsm, hyk⟩
        · rw [List.getElem?_map] at h
          cases hr : rs0[j]? with
          | none => rw [hr] at h; cases h
          | some r => rw [hr] at h; simp at h; subst h; rfl
        · rw [Nat.zero_add] at hsm
          have hmi : m ≠ i := by intro e; subst e; rw [hu0] at hsm; cases hsm
          refine at_put ?_
          rcases ((hB1 i x hx).2 m y.o y.k.nums (hz m y hm') hmi).2.2 R0.s j R.s (by rw [hyk]; rfl) with h | ⟨h, h'⟩
          · exact h
          · have := hbef m h'
            rw [hsm] at this
            simp at this
            omega
      have hstep_pure : x.k.wr = none → ∀ v w', x.p.h M w' v → Below w.heap.size w w' → wpAny P .any l.toArray Q fuel (listed.setIfInBounds i true) (a.put x.o.dst v) w' := by
        intro hnw v w' hpv hb
        refine ih _ _ _ hcount ⟨by simpa using hJ.size, hdown', M, by rw [put_size]; exact hn, by rw [put_defers]; exact hdf, henv' v M w' hpv (Ext.below hb), ?_⟩
        have hI' := (Hp M0 w0 S _).st _ _ _ hb hI
        have heq : (curR (fun j => (listed.setIfInBounds i true).getD j false) 0 L (rs0.map SR.c)).map (·.at_ (a.put x.o.dst v)) = (curR (fun i => listed.getD i false) 0 L (rs0.map SR.c)).map (·.at_ a) := by
          apply List.ext_getElem?
          intro j
          rw [List.getElem?_map, List.getElem?_map]
          have : (curR (fun j => (listed.setIfInBounds i true).getD j false) 0 L (rs0.map SR.c))[j]? = (curR (fun i => listed.getD i false) 0 L (rs0.map SR.c))[j]? := by
            refine curR_agree L 0 _ _ rfl rfl fun m y hm' hyw => ?_
            rw [Nat.zero_add, hset]
            by_cases hmi : m = i
            · subst hmi; rw [hx] at hm'; cases hm'; rw [hnw] at hyw; cases hyw
            · rw [if_neg hmi]
          rw [this]
          cases hR : (curR (fun i => listed.getD i false) 0 L (rs0.map SR.c))[j]? with
          | none => rfl
          | some R => simp only [Option.map_some]; rw [hatp v R j hR]
        rw [heq]
        exact hI'
      unfold wpOp
      rw [ho]
      simp only []
      unfold XOK at hxok
      cases hk : x.k with
      | pure =>
        rw [hk] at hxok
        refine gok_step (I := Hp M0 w0 S _) (E := curX (fun j => decide (j < i)) 0 L E) (p := x.p) ?_ henv hgu hI (hstep_pure (by rw [hk]; rfl))
        unfold GOK
        cases hgd : x.o.guard with
        | none => rw [hgd] at hxok; exact hxok _
        | some g =>
          obtain ⟨j, want⟩ := g
          rw [hgd] at hxok
          obtain ⟨d, b, h5, h6, h7, h8⟩ := hxok
          exact ⟨d, b, h5, h6, fun hb => h7 hb _, h8⟩
      | rd j R =>
        rw [hk] at hxok
        obtain ⟨hRj, hxok⟩ := hxok
        rw [hres j (by rw [hk]; rfl)] at hRj
        have hrsj : ((curR (fun i => listed.getD i false) 0 L (rs0.map SR.c)).map (·.at_ a))[j]? = some (R.at_ a) := by rw [List.getElem?_map, hRj]; rfl
        cases hgd : x.o.guard with
        | none =>
          rw [hgd] at hxok
          rw [if_pos (wanted_none hgd)]
          exact step_pure (hxok M w a _ henv hI hrsj) (hstep_pure (by rw [hk]; rfl))
        | some g =>
          obtain ⟨j', want⟩ := g
          rw [hgd] at hxok
          obtain ⟨d, b, h5, h6, h7, h8⟩ := hxok
          have h9 := hgu j' want d _ hgd h5 h6
          rw [wanted_some hgd (yielded_ob (b := b) h5 h9)]
          by_cases hb : b = some want
          · rw [if_pos (by simpa using hb)]
            exact step_pure (h7 hb M w a _ henv hI hrsj) (hstep_pure (by rw [hk]; rfl))
          · rw [if_neg (by simpa using hb)]
            refine hstep_pure (by rw [hk]; rfl) undef w ?_ (Below.refl _ _)
            have := h8 hb
            rw [this]; rfl
      | ef j R R' =>
        rw [hk] at hxok
        obtain ⟨hRj, hgd, hxok⟩ := hxok
        have hjl : j < rs0.length := by
          have h9 : j < (curR (fun m => decide (m < i)) 0 L (rs0.map SR.c)).length := by
            rcases Nat.lt_or_ge j (curR (fun m => decide (m < i)) 0 L (rs0.map SR.c)).length with h | h
            · exact h
            · rw [List.getElem?_eq_none h] at hRj; cases hRj
          rwa [curR_length, List.length_map] at h9
        have hRj0 := hRj
        rw [hres j (by rw [hk]; rfl)] at hRj
        have hrsj : ((curR (fun i => listed.getD i false) 0 L (rs0.map SR.c)).map (·.at_ a))[j]? = some (R.at_ a) := by rw [List.getElem?_map, hRj]; rfl
        rw [if_pos (wanted_none hgd)]
        refine .inl (step_ef (hxok M w a _ hn henv hI hrsj) fun v w' M' hpv hext hI' => ?_)
        refine ih _ _ _ hcount ⟨by simpa using hJ.size, hdown', M', by rw [put_size]; exact hn, by rw [put_defers]; exact hdf, henv' v M' w' hpv hext, ?_⟩
        have heq : (curR (fun j => (listed.setIfInBounds i true).getD j false) 0 L (rs0.map SR.c)).map (·.at_ (a.put x.o.dst v)) = ((curR (fun i => listed.getD i false) 0 L (rs0.map SR.c)).map (·.at_ a)).set j (R'.at_ (a.put x.o.dst v)) := by
          apply List.ext_getElem?
          intro j'
          rw [List.getElem?_map]
          by_cases hjj : j' = j
          · subst hjj
            have h9 : (curR (fun m => (listed.setIfInBounds i true).getD m false) 0 L (rs0.map SR.c))[j']? = some R' := by
              have h10 : (curR (fun m => (listed.setIfInBounds i true).getD m false) 0 L (rs0.map SR.c))[j']? = (curR (fun m => decide (m < 0 + (i + 1))) 0 L (rs0.map SR.c))[j']? := by
                refine curR_agree L 0 _ _ rfl rfl fun m y hm' hyw => ?_
                rw [Nat.zero_add, hset]
                by_cases hmi : m = i
                · subst hmi; simp
                · rw [if_neg hmi, hwr m y j' hm' hyw (by rw [hk]; rfl) hmi]
                  have : (m < i) ↔ (m < 0 + (i + 1)) := by omega
                  simp only [this]
              rw [h10, curR_lt L i 0 _ x hx, hk]
              simp only [updR]
              rw [List.getElem?_set, if_pos rfl, if_pos (by rw [curR_length, List.length_map]; exact hjl)]
            rw [h9, List.getElem?_set, if_pos rfl, if_pos (by rw [List.length_map, curR_length, List.length_map]; exact hjl)]
            rfl
          · rw [List.getElem?_set_ne (Ne.symm hjj), List.getElem?_map]
            have h10 : (curR (fun m => (listed.setIfInBounds i true).getD m false) 0 L (rs0.map SR.c))[j']? = (curR (fun m => listed.getD m false) 0 L (rs0.map SR.c))[j']? := by
              refine curR_agree L 0 _ _ rfl rfl fun m y hm' hyw => ?_
              rw [Nat.zero_add, hset]
              by_cases hmi : m = i
              · subst hmi
                rw [hx] at hm'
                cases hm'
                rw [hk] at hyw
                simp only [Kind.wr, Option.some.injEq] at hyw
                exact absurd hyw.symm hjj
              · rw [if_neg hmi]
            rw [h10]
            cases hR : (curR (fun m => listed.getD m false) 0 L (rs0.map SR.c))[j']? with
            | none => rfl
            | some R2 => simp only [Option.map_some]; rw [hatp v R2 j' hR]
        rw [heq]
        exact hI'
  refine key l.length _ a _ ?_ ⟨by simp [hlen], ?_, ?_⟩
  · simp [List.count_replicate]
  · intro i x hx hl
    exfalso
    rw [Array.getD_eq_getD_getElem?, Array.getElem?_replicate] at hl
    split at hl <;> simp at hl
  · obtain ⟨M, hn, hdf, he, hI⟩ := hs
    have hb : Below w.heap.size w { w with drawn := w.drawn + 1 } := ⟨rfl, rfl, rfl, Nat.le_refl _, fun _ _ => rfl⟩
    have hnone : ∀ m, (Array.replicate l.toArray.size false).getD m false = false := by
      intro m
      rw [Array.getD_eq_getD_getElem?, Array.getElem?_replicate]
      split <;> rfl
    refine ⟨M, hn, hdf, ?_, ?_⟩
    · intro s q hq
      rw [curX_cur, cur_miss] at hq
      · exact q.st _ _ _ _ _ (Ext.below hb) (he s q hq)
      · intro j o p hj hsel
        rw [Nat.zero_add, hnone] at hsel; cases hsel
    · have hI' := (Hp M0 w0 S rs0).st _ _ _ hb hI
      have heq : (curR (fun i => (Array.replicate l.toArray.size false).getD i false) 0 L (rs0.map SR.c)).map (·.at_ a) = rs0 := by
        apply List.ext_getElem?
        intro j
        have h9 : (curR (fun i => (Array.replicate l.toArray.size false).getD i false) 0 L (rs0.map SR.c))[j]? = (curR (fun i => decide (i < 0)) 0 L (rs0.map SR.c))[j]? :=
          curR_agree L 0 _ _ rfl rfl fun m y _ _ => by rw [Nat.zero_add, hnone]; simp
        have h10 : ∀ (L : List X) (m : Nat) (rs : List SR), curR (fun i => decide (i < 0)) m L rs = rs := by
          intro L
          induction L with
          | nil => intros; rfl
          | cons z L ih2 => intro m rs; unfold curR; rw [if_neg (by simp)]; exact ih2 _ _
        rw [List.getElem?_map, h9, h10, List.getElem?_map]
        cases rs0[j]? <;> rfl
      rw [heq]
      exact hI'
end
end Cp
