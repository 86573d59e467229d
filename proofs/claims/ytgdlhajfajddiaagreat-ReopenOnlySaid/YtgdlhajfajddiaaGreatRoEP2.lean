/-
  Part 2 of the texts that prove this claim, merged.
-/
import Derived.ChangeArms
import Derived.OpenShut
import Derived.ChangeSame
import Derived.RowKit
import Derived.ProofKit
import Derived.Laws.MakeOwn
import Derived.Test.YtgdlhajfajddiaaGreatProg
import Derived.KernelRfl
import Derived.Test.YtgdlhajfajddiaaGreatRows
import Derived.Lib.ConvBytes
import Derived.Lib.Bytealg
import Derived.Laws.StructEq
import Derived.Laws.Externs
import Derived.Lib.AtoiErrMem
import Derived.Test.YtgdlhajfajddiaaGreatRoEP1
set_option linter.all false
namespace Cp
open Go Go.RowKit Go.Great Go.ChangeShapes Go.WideShapes

def noM : Av := fun _ _ => False
theorem noM_bd (w : World) : Bd noM w := fun _ _ h => h.elim

/-- What stands in cells of type t. -/
def Opens (P : Program) (t : TypeId) {α : Type} (ok : α → Prop) (f : α → List Pr) : Prop :=
  ∀ (H : Type) (enc : TypeId × Value → H) (w : World) (fuel : Nat) (cs : List Value) (x : DataW H × List MemPlace), DataW.trod enc P w 0 (fun _ => true) true fuel t cs = some x → ∃ a, ok a ∧ HL noM w (f a) cs ∧ ∀ c ∈ cs, c.oneCell' = true

theorem Opens.map {P : Program} {t : TypeId} {α β : Type} {ok : α → Prop} {f : α → List Pr} {ok' : β → Prop} {f' : β → List Pr} (h : Opens P t ok f) (g : α → β) (h1 : ∀ a, ok a → ok' (g a)) (h2 : ∀ a, f' (g a) = f a) : Opens P t ok' f' := by
  intro H enc w fuel cs x hx
  obtain ⟨a, h3, h4, h5⟩ := h H enc w fuel cs x hx
  exact ⟨g a, h1 a h3, by rw [h2]; exact h4, h5⟩
theorem opens_int {P : Program} {t : TypeId} {k : IntKind} (ht : P.underlying t = some (.int k)) : Opens P t (fun n : Int => (Lit.int k n).wf = true) (fun n => [is (.int k n)]) := by
  intro H enc w fuel cs x hx
  obtain ⟨n, rfl, _, hw⟩ := DataW.trod_int ht hx
  exact ⟨n, hw, ⟨rfl, trivial⟩, by simp [Value.oneCell']⟩
theorem HL.len {M : Av} {w : World} : ∀ {ps : List Pr} {vs : List Value}, HL M w ps vs → ps.length = vs.length
  | [], [], _ => rfl
  | p :: ps, v :: vs, h => by simp [HL.len h.2]
  | [], _ :: _, h => h.elim
  | _ :: _, [], h => h.elim
theorem HL.nth {M : Av} {w : World} : ∀ {ps : List Pr} {vs : List Value} (j : Nat) (p : Pr), HL M w ps vs → ps[j]? = some p → ∃ v, vs[j]? = some v ∧ p.h M w v
  | p :: ps, v :: vs, 0, q, h, hj => by simp at hj; subst hj; exact ⟨v, rfl, h.1⟩
  | p :: ps, v :: vs, j + 1, q, h, hj => by simpa using HL.nth j q h.2 (by simpa using hj)
  | [], [], _, _, _, hj => by simp at hj
  | [], _ :: _, _, _, h, _ => h.elim
  | _ :: _, [], _, _, h, _ => h.elim
theorem opens_list {H : Type} {enc : TypeId × Value → H} {P : Program} {w : World} {e : TypeId} {α : Type} {ok : α → Prop} {f : α → List Pr} (he : Opens P e ok f) {sz : Nat} (hc : P.cellsOf e = sz) {a : Addr} {m : Nat} :
    ∀ (len : Nat), (∀ i, i < len → ∃ y, (w.cells? 0 (a.add (i * sz)) sz).bind (DataW.trod enc P w 0 (fun _ => true) true m e) = some y) →
      ∃ l : List α, l.length = len ∧ (∀ z ∈ l, ok z) ∧ ∀ (i : Nat) z, l[i]? = some z → (f z).length = sz ∧ Row noM w a (i * sz) (f z)
  | 0, _ => ⟨[], rfl, by simp, by simp⟩
  | len + 1, h => by
    obtain ⟨l, h1, h2, h3⟩ := opens_list he hc len (fun i hi => h i (by omega))
    obtain ⟨y, hy⟩ := h len (by omega)
    obtain ⟨cs, hcs, hy⟩ := Option.bind_eq_some_iff.1 hy
    obtain ⟨z, hz, hl, h1c⟩ := he H enc w m cs y hy
    obtain ⟨_, hlen, hat⟩ := World.cells?_some hcs
    refine ⟨l ++ [z], by simp [h1], ?_, fun i u hu => ?_⟩
    · intro u hu
      rcases List.mem_append.1 hu with hu | hu
      · exact h2 u hu
      · rw [List.mem_singleton.1 hu]; exact hz
    · rcases Nat.lt_trichotomy i len with hi | hi | hi
      · rw [List.getElem?_append_left (by omega)] at hu
        exact h3 i u hu
      · subst hi
        rw [List.getElem?_append_right (by omega), h1] at hu
        simp at hu; subst hu
        have hfl : (f z).length = sz := by rw [hl.len, hlen]
        refine ⟨hfl, fun j p hp => ?_⟩
        obtain ⟨v, hv, hpv⟩ := hl.nth j p hp
        have hj : j < sz := by
          rcases Nat.lt_or_ge j (f z).length with h' | h'
          · omega
          · rw [List.getElem?_eq_none h'] at hp; cases hp
        refine ⟨v, ?_, fun hf => hf, h1c v (List.mem_of_getElem? hv), hpv⟩
        rw [← hv, ← hat j hj]
        rw [add_add]
      · rw [List.getElem?_eq_none (by simp [h1]; omega)] at hu; cases hu
theorem opens_slice {P : Program} {t e : TypeId} {α : Type} {ok : α → Prop} {f : α → List Pr} {sz : Nat} (ht : P.underlying t = some (.slice e)) (hc : P.cellsOf e = sz) (he : Opens P e ok f) :
    Opens P t (fun l : List α => (∀ z ∈ l, ok z) ∧ l.length ≤ maxLen) (fun l => [slice sz (l.map f)]) := by
  intro H enc w fuel cs x hx
  rcases DataW.trod_slice ht hx with ⟨rfl, _⟩ | ⟨a, len, cap, elems, rest, n, rfl, rfl, _, _, hl, hm, hel, hat, _⟩
  · exact ⟨[], ⟨by simp, by simp⟩, ⟨⟨none, 0, rfl, by simp, by simp, fun _ => rfl, by simp⟩, trivial⟩, by simp [Value.oneCell']⟩
  · obtain ⟨l, h1, h2, h3⟩ := opens_list (H := H) (enc := enc) (w := w) (a := a) (m := n) he hc len (fun i hi => by
      have := hat i hi
      rw [hc] at this
      rw [this, List.getElem?_eq_getElem (by omega)]
      exact ⟨_, rfl⟩)
    refine ⟨l, ⟨h2, by omega⟩, ⟨⟨some a, cap, by simp [h1], by simp; omega, hm, by simp, fun i row hr => ?_⟩, trivial⟩, by simp [Value.oneCell']⟩
    rw [List.getElem?_map] at hr
    cases hz : l[i]? with
    | none => rw [hz] at hr; cases hr
    | some z =>
      rw [hz] at hr; simp at hr; subst hr
      obtain ⟨h4, h5⟩ := h3 i z hz
      exact ⟨h4, a, rfl, h5⟩

/-- An argument of one cell. -/
theorem arg_one {H : Type} {enc : TypeId × Value → H} {P : Program} {w : World} {t : TypeId} {α : Type} {ok : α → Prop} {p : α → Pr} (ho : Opens P t ok (fun a => [p a])) {v : Value} {d : DataW H} {ps : List MemPlace} (h : DataW.Trod enc P w 0 (fun _ => true) true t v d ps) (hv : v.cells = #[v]) :
    ∃ a, ok a ∧ (p a).h noM w v := by
  obtain ⟨fuel, hf⟩ := h
  obtain ⟨a, h1, h2, _⟩ := ho _ _ _ _ _ _ hf
  rw [hv] at h2
  exact ⟨a, h1, h2.1⟩
theorem trodAll_below {H : Type} {enc : TypeId × Value → H} {P : Program} (hl : laidOutB P = true) {W W' : World} (hb : Below W.heap.size W W') :
    ∀ {ts : List TypeId} {vs : List Value} {ds : List (DataW H)} {ps : List MemPlace}, ts.all (fun t => P.readableRec t && decide (t < P.types.size)) = true → DataW.TrodAll enc P W 0 (fun _ => true) true ts vs ds ps → (∀ x ∈ ps, x.block < W.heap.size) →
      DataW.TrodAll enc P W' 0 (fun b => decide (b < W.heap.size)) true ts vs ds ps
  | [], vs, ds, ps, _, h, _ => by
    obtain ⟨rfl, rfl, rfl⟩ := trodAll_nil h
    rfl
  | t :: ts, vs, ds, ps, hr, h, hlt => by
    obtain ⟨v, vs', d, ds', p, q, rfl, rfl, rfl, h1, h2⟩ := trodAll_cons h
    simp only [List.all_cons, Bool.and_eq_true, decide_eq_true_eq] at hr
    exact ⟨p, q, Below.trod hl hr.1.1 hr.1.2 h1 hb (fun x hx => hlt x (List.mem_append_left _ hx)), trodAll_below hl hb (by simpa using hr.2) h2 (fun x hx => hlt x (List.mem_append_right _ hx)), rfl⟩

/-- A law that returns true and turns nothing. -/
theorem law_post {H : Type} {enc : TypeId × Value → H} {P : Program} {fn : Func} {s : ChangeSpec} {W W' : World} {args : Array Value} {ds gs : List (DataW H)} {before p : List MemPlace} {tb : TypeId} (hl : laidOutB P = true)
    (hr : fn.params.toList.all (fun t => P.readableRec t && decide (t < P.types.size)) = true) (hres : fn.resultTypes = #[tb]) (hb : P.underlying tb = some .bool) (hs : s.vars = [])
    (hA : DataW.TrodAll enc P W 0 (fun _ => true) true fn.params.toList args.toList ds p) (hp : before = p) (hW : DataW.Whole enc P fn.params.toList s.vars false W args.toList ds gs before)
    (hf : s.fn H (ds ++ gs) = { results := [.lit (.bool true)], args := ds }) (hbelow : Below W.heap.size W W') : s.post enc P fn false true false false W args (.bool true) W' := by
  subst hp
  refine ⟨ds, gs, before, [], before, [], hW, ?_, ?_, ?_, hbelow.frame _, fun h => by cases h⟩
  · rw [hf, hres]; exact trodAll_mk1 (shut_bool hb _)
  · rw [hf]; exact trodAll_below hl hbelow hr hA (fun x hx => by simpa using hW.lt x hx)
  · rw [hf, hs]; rfl
end Cp
namespace Cp
open Go Go.RowKit Go.Great

section
variable {P : Program} {n : Nat} {E : Env} {I : Asn} {Q : Exit → Act → World → Prop}
theorem Tr.loopD1V0 {α0 : Type} (K : Env) (hK : SubL E K) (F : α0 → Env) (Ii : α0 → Asn) (C : α0 → Prop) (μ : α0 → Nat) {c : Code} (x0s : α0)  (h0 : C x0s) (hs : SubL E (F x0s)) (hI : ∀ M w, I.h M w → (Ii x0s).h M w)
    (round : ∀ x0, C x0 → Tr P n (F x0 ++ K) (Ii x0) c (Exit.then (fun a w => ∃ x0', (C x0' ∧ μ x0' < μ x0) ∧ St n (F x0' ++ K) (Ii x0') a w) Q)) : Tr P n E I (.loop c) Q :=
  Tr.loopR K hK (fun y : α0 => F y) (fun y => Ii y) (fun y => C y) (fun y => μ y) x0s h0 hs hI fun y hy =>
    Tr.post (round y hy) fun e a w h => by
      cases e <;> first | exact h | (obtain ⟨x0', h1, h2⟩ := h; exact ⟨x0', h1, h2⟩)
theorem Fin.famD1V0 {α0 : Type} {E1 : α0 → Env} {I1 : α0 → Asn} {C : α0 → Prop} (x0 : α0)  (hC : C x0) (hs : SubL E (E1 x0)) (hI : ∀ M w, I.h M w → (I1 x0).h M w) :
    Fin n E I (Exit.then (fun a w => ∃ x0', C x0' ∧ St n (E1 x0') (I1 x0') a w) Q) .normal := fun _ _ hst => ⟨x0, hC, hst.sub hs hI⟩
theorem Tr.loopD1V1 {α0 : Type} (K : Env) (hK : SubL E K) (F : α0 → Value → Env) (Ii : α0 → Value → Asn) (C : α0 → Prop) (μ : α0 → Nat) {c : Code} (x0s : α0) (v0s : Value) (h0 : C x0s) (hs : SubL E (F x0s v0s)) (hI : ∀ M w, I.h M w → (Ii x0s v0s).h M w)
    (round : ∀ x0 v0, C x0 → Tr P n (F x0 v0 ++ K) (Ii x0 v0) c (Exit.then (fun a w => ∃ x0' v0', (C x0' ∧ μ x0' < μ x0) ∧ St n (F x0' v0' ++ K) (Ii x0' v0') a w) Q)) : Tr P n E I (.loop c) Q :=
  Tr.loopR K hK (fun y : α0 × Value => F y.1 y.2) (fun y => Ii y.1 y.2) (fun y => C y.1) (fun y => μ y.1) (x0s, v0s) h0 hs hI fun y hy =>
    Tr.post (round y.1 y.2 hy) fun e a w h => by
      cases e <;> first | exact h | (obtain ⟨x0', v0', h1, h2⟩ := h; exact ⟨(x0', v0'), h1, h2⟩)
theorem Fin.famD1V1 {α0 : Type} {E1 : α0 → Value → Env} {I1 : α0 → Value → Asn} {C : α0 → Prop} (x0 : α0) (v0 : Value) (hC : C x0) (hs : SubL E (E1 x0 v0)) (hI : ∀ M w, I.h M w → (I1 x0 v0).h M w) :
    Fin n E I (Exit.then (fun a w => ∃ x0' v0', C x0' ∧ St n (E1 x0' v0') (I1 x0' v0') a w) Q) .normal := fun _ _ hst => ⟨x0, v0, hC, hst.sub hs hI⟩
theorem Tr.loopD2V0 {α0 α1 : Type} (K : Env) (hK : SubL E K) (F : α0 → α1 → Env) (Ii : α0 → α1 → Asn) (C : α0 → α1 → Prop) (μ : α0 → α1 → Nat) {c : Code} (x0s : α0) (x1s : α1)  (h0 : C x0s x1s) (hs : SubL E (F x0s x1s)) (hI : ∀ M w, I.h M w → (Ii x0s x1s).h M w)
    (round : ∀ x0 x1, C x0 x1 → Tr P n (F x0 x1 ++ K) (Ii x0 x1) c (Exit.then (fun a w => ∃ x0' x1', (C x0' x1' ∧ μ x0' x1' < μ x0 x1) ∧ St n (F x0' x1' ++ K) (Ii x0' x1') a w) Q)) : Tr P n E I (.loop c) Q :=
  Tr.loopR K hK (fun y : α0 × α1 => F y.1 y.2) (fun y => Ii y.1 y.2) (fun y => C y.1 y.2) (fun y => μ y.1 y.2) (x0s, x1s) h0 hs hI fun y hy =>
    Tr.post (round y.1 y.2 hy) fun e a w h => by
      cases e <;> first | exact h | (obtain ⟨x0', x1', h1, h2⟩ := h; exact ⟨(x0', x1'), h1, h2⟩)
theorem Fin.famD2V0 {α0 α1 : Type} {E1 : α0 → α1 → Env} {I1 : α0 → α1 → Asn} {C : α0 → α1 → Prop} (x0 : α0) (x1 : α1)  (hC : C x0 x1) (hs : SubL E (E1 x0 x1)) (hI : ∀ M w, I.h M w → (I1 x0 x1).h M w) :
    Fin n E I (Exit.then (fun a w => ∃ x0' x1', C x0' x1' ∧ St n (E1 x0' x1') (I1 x0' x1') a w) Q) .normal := fun _ _ hst => ⟨x0, x1, hC, hst.sub hs hI⟩
theorem Tr.loopD2V1 {α0 α1 : Type} (K : Env) (hK : SubL E K) (F : α0 → α1 → Value → Env) (Ii : α0 → α1 → Value → Asn) (C : α0 → α1 → Prop) (μ : α0 → α1 → Nat) {c : Code} (x0s : α0) (x1s : α1) (v0s : Value) (h0 : C x0s x1s) (hs : SubL E (F x0s x1s v0s)) (hI : ∀ M w, I.h M w → (Ii x0s x1s v0s).h M w)
    (round : ∀ x0 x1 v0, C x0 x1 → Tr P n (F x0 x1 v0 ++ K) (Ii x0 x1 v0) c (Exit.then (fun a w => ∃ x0' x1' v0', (C x0' x1' ∧ μ x0' x1' < μ x0 x1) ∧ St n (F x0' x1' v0' ++ K) (Ii x0' x1' v0') a w) Q)) : Tr P n E I (.loop c) Q :=
  Tr.loopR K hK (fun y : α0 × α1 × Value => F y.1 y.2.1 y.2.2) (fun y => Ii y.1 y.2.1 y.2.2) (fun y => C y.1 y.2.1) (fun y => μ y.1 y.2.1) (x0s, x1s, v0s) h0 hs hI fun y hy =>
    Tr.post (round y.1 y.2.1 y.2.2 hy) fun e a w h => by
      cases e <;> first | exact h | (obtain ⟨x0', x1', v0', h1, h2⟩ := h; exact ⟨(x0', x1', v0'), h1, h2⟩)
theorem Fin.famD2V1 {α0 α1 : Type} {E1 : α0 → α1 → Value → Env} {I1 : α0 → α1 → Value → Asn} {C : α0 → α1 → Prop} (x0 : α0) (x1 : α1) (v0 : Value) (hC : C x0 x1) (hs : SubL E (E1 x0 x1 v0)) (hI : ∀ M w, I.h M w → (I1 x0 x1 v0).h M w) :
    Fin n E I (Exit.then (fun a w => ∃ x0' x1' v0', C x0' x1' ∧ St n (E1 x0' x1' v0') (I1 x0' x1' v0') a w) Q) .normal := fun _ _ hst => ⟨x0, x1, v0, hC, hst.sub hs hI⟩
theorem Tr.loopD3V0 {α0 α1 α2 : Type} (K : Env) (hK : SubL E K) (F : α0 → α1 → α2 → Env) (Ii : α0 → α1 → α2 → Asn) (C : α0 → α1 → α2 → Prop) (μ : α0 → α1 → α2 → Nat) {c : Code} (x0s : α0) (x1s : α1) (x2s : α2)  (h0 : C x0s x1s x2s) (hs : SubL E (F x0s x1s x2s)) (hI : ∀ M w, I.h M w → (Ii x0s x1s x2s).h M w)
    (round : ∀ x0 x1 x2, C x0 x1 x2 → Tr P n (F x0 x1 x2 ++ K) (Ii x0 x1 x2) c (Exit.then (fun a w => ∃ x0' x1' x2', (C x0' x1' x2' ∧ μ x0' x1' x2' < μ x0 x1 x2) ∧ St n (F x0' x1' x2' ++ K) (Ii x0' x1' x2') a w) Q)) : Tr P n E I (.loop c) Q :=
  Tr.loopR K hK (fun y : α0 × α1 × α2 => F y.1 y.2.1 y.2.2) (fun y => Ii y.1 y.2.1 y.2.2) (fun y => C y.1 y.2.1 y.2.2) (fun y => μ y.1 y.2.1 y.2.2) (x0s, x1s, x2s) h0 hs hI fun y hy =>
    Tr.post (round y.1 y.2.1 y.2.2 hy) fun e a w h => by
      cases e <;> first | exact h | (obtain ⟨x0', x1', x2', h1, h2⟩ := h; exact ⟨(x0', x1', x2'), h1, h2⟩)
theorem Fin.famD3V0 {α0 α1 α2 : Type} {E1 : α0 → α1 → α2 → Env} {I1 : α0 → α1 → α2 → Asn} {C : α0 → α1 → α2 → Prop} (x0 : α0) (x1 : α1) (x2 : α2)  (hC : C x0 x1 x2) (hs : SubL E (E1 x0 x1 x2)) (hI : ∀ M w, I.h M w → (I1 x0 x1 x2).h M w) :
    Fin n E I (Exit.then (fun a w => ∃ x0' x1' x2', C x0' x1' x2' ∧ St n (E1 x0' x1' x2') (I1 x0' x1' x2') a w) Q) .normal := fun _ _ hst => ⟨x0, x1, x2, hC, hst.sub hs hI⟩
theorem Tr.loopD3V1 {α0 α1 α2 : Type} (K : Env) (hK : SubL E K) (F : α0 → α1 → α2 → Value → Env) (Ii : α0 → α1 → α2 → Value → Asn) (C : α0 → α1 → α2 → Prop) (μ : α0 → α1 → α2 → Nat) {c : Code} (x0s : α0) (x1s : α1) (x2s : α2) (v0s : Value) (h0 : C x0s x1s x2s) (hs : SubL E (F x0s x1s x2s v0s)) (hI : ∀ M w, I.h M w → (Ii x0s x1s x2s v0s).h M w)
    (round : ∀ x0 x1 x2 v0, C x0 x1 x2 → Tr P n (F x0 x1 x2 v0 ++ K) (Ii x0 x1 x2 v0) c (Exit.then (fun a w => ∃ x0' x1' x2' v0', (C x0' x1' x2' ∧ μ x0' x1' x2' < μ x0 x1 x2) ∧ St n (F x0' x1' x2' v0' ++ K) (Ii x0' x1' x2' v0') a w) Q)) : Tr P n E I (.loop c) Q :=
  Tr.loopR K hK (fun y : α0 × α1 × α2 × Value => F y.1 y.2.1 y.2.2.1 y.2.2.2) (fun y => Ii y.1 y.2.1 y.2.2.1 y.2.2.2) (fun y => C y.1 y.2.1 y.2.2.1) (fun y => μ y.1 y.2.1 y.2.2.1) (x0s, x1s, x2s, v0s) h0 hs hI fun y hy =>
    Tr.post (round y.1 y.2.1 y.2.2.1 y.2.2.2 hy) fun e a w h => by
      cases e <;> first | exact h | (obtain ⟨x0', x1', x2', v0', h1, h2⟩ := h; exact ⟨(x0', x1', x2', v0'), h1, h2⟩)
theorem Fin.famD3V1 {α0 α1 α2 : Type} {E1 : α0 → α1 → α2 → Value → Env} {I1 : α0 → α1 → α2 → Value → Asn} {C : α0 → α1 → α2 → Prop} (x0 : α0) (x1 : α1) (x2 : α2) (v0 : Value) (hC : C x0 x1 x2) (hs : SubL E (E1 x0 x1 x2 v0)) (hI : ∀ M w, I.h M w → (I1 x0 x1 x2 v0).h M w) :
    Fin n E I (Exit.then (fun a w => ∃ x0' x1' x2' v0', C x0' x1' x2' ∧ St n (E1 x0' x1' x2' v0') (I1 x0' x1' x2' v0') a w) Q) .normal := fun _ _ hst => ⟨x0, x1, x2, v0, hC, hst.sub hs hI⟩
theorem Tr.loopD4V0 {α0 α1 α2 α3 : Type} (K : Env) (hK : SubL E K) (F : α0 → α1 → α2 → α3 → Env) (Ii : α0 → α1 → α2 → α3 → Asn) (C : α0 → α1 → α2 → α3 → Prop) (μ : α0 → α1 → α2 → α3 → Nat) {c : Code} (x0s : α0) (x1s : α1) (x2s : α2) (x3s : α3)  (h0 : C x0s x1s x2s x3s) (hs : SubL E (F x0s x1s x2s x3s)) (hI : ∀ M w, I.h M w → (Ii x0s x1s x2s x3s).h M w)
    (round : ∀ x0 x1 x2 x3, C x0 x1 x2 x3 → Tr P n (F x0 x1 x2 x3 ++ K) (Ii x0 x1 x2 x3) c (Exit.then (fun a w => ∃ x0' x1' x2' x3', (C x0' x1' x2' x3' ∧ μ x0' x1' x2' x3' < μ x0 x1 x2 x3) ∧ St n (F x0' x1' x2' x3' ++ K) (Ii x0' x1' x2' x3') a w) Q)) : Tr P n E I (.loop c) Q :=
  Tr.loopR K hK (fun y : α0 × α1 × α2 × α3 => F y.1 y.2.1 y.2.2.1 y.2.2.2) (fun y => Ii y.1 y.2.1 y.2.2.1 y.2.2.2) (fun y => C y.1 y.2.1 y.2.2.1 y.2.2.2) (fun y => μ y.1 y.2.1 y.2.2.1 y.2.2.2) (x0s, x1s, x2s, x3s) h0 hs hI fun y hy =>
    Tr.post (round y.1 y.2.1 y.2.2.1 y.2.2.2 hy) fun e a w h => by
      cases e <;> first | exact h | (obtain ⟨x0', x1', x2', x3', h1, h2⟩ := h; exact ⟨(x0', x1', x2', x3'), h1, h2⟩)
theorem Fin.famD4V0 {α0 α1 α2 α3 : Type} {E1 : α0 → α1 → α2 → α3 → Env} {I1 : α0 → α1 → α2 → α3 → Asn} {C : α0 → α1 → α2 → α3 → Prop} (x0 : α0) (x1 : α1) (x2 : α2) (x3 : α3)  (hC : C x0 x1 x2 x3) (hs : SubL E (E1 x0 x1 x2 x3)) (hI : ∀ M w, I.h M w → (I1 x0 x1 x2 x3).h M w) :
    Fin n E I (Exit.then (fun a w => ∃ x0' x1' x2' x3', C x0' x1' x2' x3' ∧ St n (E1 x0' x1' x2' x3') (I1 x0' x1' x2' x3') a w) Q) .normal := fun _ _ hst => ⟨x0, x1, x2, x3, hC, hst.sub hs hI⟩
end

structure DS where
  l : List Int
  at_ : Nat
  h : at_ ≤ l.length
  h2 : l.length ≤ 1000000000
def DS.val (s : DS) (n : Int) : Int := match s.l[s.at_]? with | some x => x % n | none => 0
def DS.adv (s : DS) : DS := if h : s.at_ < s.l.length then ⟨s.l, s.at_ + 1, h, s.h2⟩ else s
theorem DS.val_in (s : DS) {n : Int} (hn : 1 ≤ n) : 0 ≤ s.val n ∧ s.val n < n := by
  unfold DS.val
  split
  · exact ⟨Int.emod_nonneg _ (by omega), Int.emod_lt_of_pos _ (by omega)⟩
  · omega
theorem DS.val_end {s : DS} (h : s.l.length ≤ s.at_) (n : Int) : s.val n = 0 := by
  unfold DS.val; rw [List.getElem?_eq_none h]
theorem DS.adv_end {s : DS} (h : s.l.length ≤ s.at_) : s.adv = s := by
  unfold DS.adv; rw [dif_neg (by omega)]
theorem DS.val_at {s : DS} {x : Int} (h : s.l[s.at_]? = some x) (n : Int) : s.val n = x % n := by
  unfold DS.val; rw [h]
theorem DS.adv_at {s : DS} (h : s.at_ < s.l.length) : s.adv = ⟨s.l, s.at_ + 1, h, s.h2⟩ := by
  unfold DS.adv; rw [dif_pos h]
def dicesP (s : DS) : List Pr := [slice 1 (s.l.map fun n => [int n]), int ((s.at_ : Nat) : Int)]
def diceR (T : TypeId) (b : Nat) (s : DS) : Res := cellsRes true b T (dicesP s)
def diceEx (T : TypeId) (b : Nat) : Res := cellsEx true b T (fun _ : DS => True) dicesP
/-- Some number of a list. -/
def DS.of (s : DS) (l : List Int) : Int := (l[(s.val l.length).toNat]?).getD 0
theorem DS.of_mem (s : DS) {l : List Int} (h : l ≠ []) : s.of l ∈ l := by
  have h0 : 1 ≤ (l.length : Int) := by
    have := List.length_pos_iff.2 h
    omega
  have := s.val_in h0
  unfold DS.of
  rw [List.getElem?_eq_getElem (by omega)]
  exact List.getElem_mem _

section
variable {P : Program} {n : Nat} {E : Env} {M0 : Av} {w0 : World} {S : Nat → Prop} {rs : List Res}
theorem Tr.openD {Q : Exit → Act → World → Prop} {c : Code} (i : Nat) {T : TypeId} {b : Nat} (hi : rs[i]? = some (diceEx T b)) (k : ∀ s, Tr P n E (Hp M0 w0 S (rs.set i (diceR T b s))) c Q) : Tr P n E (Hp M0 w0 S rs) c Q :=
  Tr.openR i hi fun s _ => k s
theorem Fin.openD {Q : Exit → Act → World → Prop} {e : Exit} (i : Nat) {T : TypeId} {b : Nat} (hi : rs[i]? = some (diceEx T b)) (k : ∀ s, Fin n E (Hp M0 w0 S (rs.set i (diceR T b s))) Q e) : Fin n E (Hp M0 w0 S rs) Q e := by
  rintro a w ⟨M, h1, h2, h3, h4⟩
  have h4 : HpH M0 w0 S rs M w := h4
  obtain ⟨x, hx, hh⟩ := (h4.hold _ (List.mem_of_getElem? hi)).1
  exact k x a w ⟨M, h1, h2, h3, h4.swap1 hi rfl rfl hh⟩
theorem Fin.closeD {Q : Exit → Act → World → Prop} {e : Exit} (i : Nat) {T : TypeId} {b : Nat} (s : DS) {ps : List Pr} (hi : rs[i]? = some (cellsRes true b T ps)) (hp : ps = dicesP s) (k : Fin n E (Hp M0 w0 S (rs.set i (diceEx T b))) Q e) : Fin n E (Hp M0 w0 S rs) Q e :=
  Fin.closeR i (fun _ => True) dicesP s trivial hi hp k
theorem Tr.closeD {Q : Exit → Act → World → Prop} {c : Code} (i : Nat) {T : TypeId} {b : Nat} (s : DS) {ps : List Pr} (hi : rs[i]? = some (cellsRes true b T ps)) (hp : ps = dicesP s) (k : Tr P n E (Hp M0 w0 S (rs.set i (diceEx T b))) c Q) : Tr P n E (Hp M0 w0 S rs) c Q :=
  Tr.closeR i (fun _ => True) dicesP s trivial hi hp k

theorem TO.opn {ops : Array Oper} {l : List Oper} {Q : Exit → Act → World → Prop} (s j : Nat) {v : Value} {f : Value → Res} (g : Nat → Res) (hs : E.lookup s = some (andIs v (Cp.ex fun b => ptr b 0))) (hi : rs[j]? = some (f v)) (hf : ∀ b, f (.pointer (some ⟨b, 0, none⟩)) = g b)
    (k : ∀ b, TO P n ops l ((s, ptr b 0) :: E) (Hp M0 w0 S (rs.set j (g b))) Q) : TO P n ops l E (Hp M0 w0 S rs) Q := by
  intro k0 hl a w hst
  obtain ⟨M, h1, h2, he, h4⟩ := hst
  obtain ⟨h5, b, h6⟩ := he s _ hs
  have hv : v = .pointer (some ⟨b, 0, none⟩) := by rw [← h5]; exact h6
  have hj : rs.set j (g b) = rs := by
    have hjl : j < rs.length := by rcases Nat.lt_or_ge j rs.length with h | h; exact h; rw [List.getElem?_eq_none h] at hi; cases hi
    rw [← hf b, ← hv]
    rw [List.getElem?_eq_getElem hjl] at hi
    simp at hi
    rw [← hi, List.set_getElem_self]
  refine k b k0 hl a w ⟨M, h1, h2, ?_, by rw [hj]; exact h4⟩
  intro t q hq
  simp only [List.lookup] at hq
  by_cases ht : t = s
  · subst ht; simp at hq; subst hq; exact h6
  · rw [show (t == s) = false by simpa using ht] at hq; exact he t q hq

def rvRun (r : ResultVar) (a : Act) : Sem Value := match r with | .tmp t => pure (a.tmps.getD t undef) | .cell c t => do loadVar t (← asAddr (a.tmps.getD c undef))
def RVal (P : Program) (E : Env) (rs : List Res) (r : ResultVar) (p : Pr) : Prop := ∀ (M : Av) (w : World) (a : Act), EnvOK M w E a → (∀ q ∈ rs, q.h M w) → ∃ v, (rvRun r a).run P w = .ok v w ∧ p.h M w v
theorem RVal.tmp {t : Tmp} {q p : Pr} (h : E.lookup t = some q) (hl : Pr.le q p) : RVal P E rs (.tmp t) p := fun _ _ _ he _ => ⟨_, rfl, hl _ _ _ (he _ _ h)⟩
theorem RVal.cell (i : Nat) {c : Tmp} {t T : TypeId} {b m : Nat} {new : Bool} {ps : List Pr} {p : Pr} (h : E.lookup c = some (ptr b 0)) (hi : rs[i]? = some (cellsRes new b T ps)) (ht : aggB P t = true) (hz : sizeB P t = some m) (hm : ps.length = m) (hl : Pr.le (agg ps) p) : RVal P E rs (.cell c t) p := by
  intro M w a he hr
  obtain ⟨v, h1, h2⟩ := run_cell ht hz hm (hr _ (List.mem_of_getElem? hi))
  refine ⟨v, ?_, hl _ _ _ h2⟩
  have hc : a.tmps.getD c undef = .pointer (some ⟨b, 0, none⟩) := he _ _ h
  unfold rvRun
  simp only [hc, asAddr]
  simpa [Sem.run_bind] using h1
theorem results_rv (g : Func) (a : Act) : results g a.tmps = (do let vs ← g.results.mapM (fun r => rvRun r a); pure (if h : vs.size = 1 then vs[0] else .tuple vs)) := by
  have : (fun r : ResultVar => rvRun r a) = (fun | .tmp t => pure (a.tmps.getD t undef) | .cell c t => do loadVar t (← asAddr (a.tmps.getD c undef))) := by
    funext r; cases r <;> rfl
  rw [this]; rfl
theorem results1 {g : Func} {r : ResultVar} {a : Act} {w : World} {v : Value} (hr : g.results = #[r]) (h : (rvRun r a).run P w = .ok v w) : (results g a.tmps).run P w = .ok v w := by
  rw [results_rv, hr]; simp [Sem.run_bind, h]
theorem results2 {g : Func} {r r' : ResultVar} {a : Act} {w : World} {v v' : Value} (hr : g.results = #[r, r']) (h : (rvRun r a).run P w = .ok v w) (h' : (rvRun r' a).run P w = .ok v' w) : (results g a.tmps).run P w = .ok (.tuple #[v, v']) w := by
  rw [results_rv, hr]; simp [Sem.run_bind, h, h']
theorem HpH.dropPre {M : Av} {w : World} : ∀ {pre : List Res}, HpH M0 w0 S (pre ++ rs) M w → HpH M0 w0 S rs M w
  | [], h => h
  | _ :: _, h => HpH.dropPre h.drop1
variable {g : Func} {M1 : Av} {w1 : World}
theorem Fin.retX1 {r : ResultVar} {p q : Pr} (hr : g.results = #[r]) (h : RVal P E rs r q) (hl : Pr.le q p) : Fin n E (Hp M0 w0 noS rs) (bodyPost P g (Back M0 w0 p)) .ret := by
  rintro a w ⟨M, _, hd, he, hi⟩
  obtain ⟨v, hv, hp⟩ := h M w a he (fun q hq => (hi.hold q hq).1)
  obtain ⟨h1, h2⟩ := OutW.bse M0 w0 M w hi
  exact ⟨hd, v, results1 hr hv, _, rfl, p.st _ _ _ _ _ (Ext.less h1) (hl _ _ _ hp), h2⟩
theorem Fin.retX2 {r r' : ResultVar} {p q q' : Pr} (hr : g.results = #[r, r']) (h : RVal P E rs r q) (h' : RVal P E rs r' q') (hl : Pr.le (tup [q, q']) p) : Fin n E (Hp M0 w0 noS rs) (bodyPost P g (Back M0 w0 p)) .ret := by
  rintro a w ⟨M, _, hd, he, hi⟩
  obtain ⟨v, hv, hp⟩ := h M w a he (fun q hq => (hi.hold q hq).1)
  obtain ⟨v', hv', hp'⟩ := h' M w a he (fun q hq => (hi.hold q hq).1)
  obtain ⟨h1, h2⟩ := OutW.bse M0 w0 M w hi
  exact ⟨hd, _, results2 hr hv hv', _, rfl, p.st _ _ _ _ _ (Ext.less h1) (hl _ _ _ ⟨[_, _], rfl, hp, hp', trivial⟩), h2⟩
theorem Fin.retY1 (pre : List Res) {r : ResultVar} {R : Res} {R' : Value → Res} {p q : Pr} (hr : g.results = #[r]) (h : RVal P E (pre ++ R :: extRes M1 w1 :: rs) r q) (hl : Pr.le q p) (hR : ∀ M w v, q.h M w v → R' v = R) :
    Fin n E (Hp M0 w0 S (pre ++ R :: extRes M1 w1 :: rs)) (bodyPost P g (BackM M0 w0 S rs M1 w1 p R')) .ret := by
  rintro a w ⟨M, _, hd, he, hi⟩
  obtain ⟨v, hv, hp⟩ := h M w a he (fun q hq => (hi.hold q hq).1)
  obtain ⟨h1, h2⟩ := outM (HpH.dropPre hi)
  exact ⟨hd, v, results1 hr hv, _, M, rfl, hl _ _ _ hp, h1, by rw [hR _ _ _ hp]; exact h2⟩
theorem Fin.retY2 (pre : List Res) {r r' : ResultVar} {R : Res} {p q q' : Pr} (hr : g.results = #[r, r']) (h : RVal P E (pre ++ R :: extRes M1 w1 :: rs) r q) (h' : RVal P E (pre ++ R :: extRes M1 w1 :: rs) r' q') (hl : Pr.le (tup [q, q']) p) :
    Fin n E (Hp M0 w0 S (pre ++ R :: extRes M1 w1 :: rs)) (bodyPost P g (BackM M0 w0 S rs M1 w1 p (fun _ => R))) .ret := by
  rintro a w ⟨M, _, hd, he, hi⟩
  obtain ⟨v, hv, hp⟩ := h M w a he (fun q hq => (hi.hold q hq).1)
  obtain ⟨v', hv', hp'⟩ := h' M w a he (fun q hq => (hi.hold q hq).1)
  obtain ⟨h1, h2⟩ := outM (HpH.dropPre hi)
  exact ⟨hd, _, results2 hr hv hv', _, M, rfl, hl _ _ _ ⟨[_, _], rfl, hp, hp', trivial⟩, h1, h2⟩
theorem ex_in {α : Type} {p : α → Pr} {q : Pr} (x : α) (h : Pr.le q (p x)) : Pr.le q (Cp.ex p) := fun M w v hv => ⟨x, h M w v hv⟩
theorem fact_in {φ : Prop} {p q : Pr} (hφ : φ) (h : Pr.le q p) : Pr.le q (fact φ p) := fun M w v hv => ⟨hφ, h M w v hv⟩
end
end Cp
namespace Cp
open Go Go.RowKit Go.Great

section
variable {P : Program} {n : Nat} {E : Env} {M0 : Av} {w0 : World} {S : Nat → Prop} {rs : List SR} {o : Oper}
theorem ef_storeS {t : TypeId} {x : Operand} {q : Tmp} {j : Nat} {new : Bool} {b off : Nat} {T : TypeId} {ps : List Pr} {p : Pr} [One p] (hg : o.guard = none) (hd : o.dst = none) (ho : o.op = .store t x (.tmp q)) (hx : VL E x (ptr b off)) (hy : E.lookup q = some p)
    (hz : sizeB P t = some 1) (hl : off + 1 ≤ ps.length) : OpEf P M0 w0 S n j (SR.c (cellsRes new b T ps)) ⟨q, fun v => cellsRes new b T (ps.take off ++ [andIs v p] ++ ps.drop (off + 1))⟩ o E any := by
  refine ⟨hg, fun M w a rs hsz he hI hj => ?_⟩
  have h1 : a.eval x = .pointer (some ⟨b, off, none⟩) := hx.ev he (by simp [ho, Op.operands])
  have hv : VL E (.tmp q) p := ⟨_, hy, Pr.le_refl _⟩
  have hp := hv.ev he (show (Operand.tmp q) ∈ o.op.operands.toList by simp [ho, Op.operands])
  obtain ⟨h2, h3⟩ := (VL.le hv (one_cellsP p)).ev he (show (Operand.tmp q) ∈ o.op.operands.toList by simp [ho, Op.operands])
  obtain ⟨⟨_, cs, h4, h5, h6⟩, _⟩ := hI.hold _ (List.mem_of_getElem? hj)
  have h5l := h5.length
  have h2l := h2.length
  have hone : (a.eval (.tmp q)).cells = #[a.eval (.tmp q)] := (One.one (p := p) M w _ hp).1
  have h2' : HL M w [andIs (a.eval (.tmp q)) p] (a.eval (.tmp q)).cells.toList := by rw [hone]; exact ⟨⟨rfl, hp⟩, trivial⟩
  have hcells : (a.eval (.tmp q)).cells.size = 1 := by rw [hone]; rfl
  have hrun : (storeCells ⟨b, off, none⟩ (a.eval (.tmp q)).cells.toList 0).run P w = .ok () (w.setRow b (cs.take off ++ (a.eval (.tmp q)).cells.toList ++ cs.drop (off + 1)).toArray) := by
    have := run_storeCells_at (P := P) b off T (a.eval (.tmp q)).cells.toList 0 cs.toArray w h4 (by simp [hcells]; omega) h3
    simpa [hcells] using this
  have hrun2 : (execOp a.eval o).run P w = .ok .skip (w.setRow b (cs.take off ++ (a.eval (.tmp q)).cells.toList ++ cs.drop (off + 1)).toArray) := by
    simp [execOp, ho, h1, Instr.storeAt, Instr.sureAddr, storeVar, run_size hz, hcells, hrun]
  rw [hrun2]
  obtain ⟨h7, h8⟩ := HpH.write (qs := ps.take off ++ [andIs (a.eval (.tmp q)) p] ++ ps.drop (off + 1)) (cs := cs.take off ++ (a.eval (.tmp q)).cells.toList ++ cs.drop (off + 1)) hI hj ((((h5.take off).app h2')).app (h5.drop (off + 1)))
    (fun c hc => by
      simp only [List.mem_append] at hc
      rcases hc with (hc | hc) | hc
      · exact h6 c (List.mem_of_mem_take hc)
      · exact h3 c hc
      · exact h6 c (List.mem_of_mem_drop hc))
  refine ⟨M, trivial, h8, ?_⟩
  have hput : SR.at_ (a.put o.dst undef) ⟨q, fun v => cellsRes new b T (ps.take off ++ [andIs v p] ++ ps.drop (off + 1))⟩ = cellsRes new b T (ps.take off ++ [andIs (a.eval (.tmp q)) p] ++ ps.drop (off + 1)) := by rw [hd]; rfl
  rw [hput]; exact h7

theorem set_at {j s : Nat} {f : Value → Res} (hR : rs[j]? = some ⟨s, f⟩) (a : Act) : (rs.set j (SR.c (f (a.tmps.getD s undef)))).map (·.at_ a) = rs.map (·.at_ a) := by
  rw [List.map_set]
  apply List.ext_getElem?
  intro i
  rw [List.getElem?_set]
  by_cases hij : j = i
  · subst hij
    rw [if_pos rfl]
    split
    · rw [List.getElem?_map, hR]; rfl
    · rename_i hge
      rw [List.getElem?_eq_none (by omega)]
  · rw [if_neg hij]
theorem FinX.open2 {Q : Exit → Act → World → Prop} (j i s : Nat) {f g : Value → Res} {p : Pr} (hR : rs[j]? = some ⟨s, f⟩) (hR' : rs[i]? = some ⟨s, g⟩) (hij : j ≠ i) (hs : E.lookup s = some p) (k : ∀ v, FinX n M0 w0 S ((s, andIs v p) :: E) ((rs.set j (SR.c (f v))).set i (SR.c (g v))) Q) : FinX n M0 w0 S E rs Q := by
  rintro a w ⟨M, h1, h2, h3, h4⟩
  refine k (a.tmps.getD s undef) a w ⟨M, h1, h2, ?_, ?_⟩
  · intro t q hq
    simp only [List.lookup] at hq
    by_cases ht : t = s
    · subst ht; simp only [beq_self_eq_true, Option.some.injEq] at hq; subst hq; exact ⟨rfl, h3 t p hs⟩
    · rw [show (t == s) = false by simpa using ht] at hq; exact h3 t q hq
  · rw [set_at (rs := rs.set j (SR.c (f (a.tmps.getD s undef)))) (j := i) (s := s) (f := g) (by rw [List.getElem?_set, if_neg hij]; exact hR') a, set_at hR a]; exact h4
end

section
variable {P : Program} {n : Nat} {E : Env} {M0 : Av} {w0 : World} {S : Nat → Prop} {rs : List Res}
theorem St.reC (j : Nat) {new : Bool} {b : Nat} {T : TypeId} {ps qs : List Pr} (hi : rs[j]? = some (cellsRes new b T ps)) (h : LeL ps qs) {a : Act} {w : World} (hs : St n E (Hp M0 w0 S rs) a w) : St n E (Hp M0 w0 S (rs.set j (cellsRes new b T qs))) a w := by
  obtain ⟨M, h1, h2, h3, h4⟩ := hs
  have h4 : HpH M0 w0 S rs M w := h4
  obtain ⟨h5, cs, h6, h7, h8⟩ := (h4.hold _ (List.mem_of_getElem? hi)).1
  exact ⟨M, h1, h2, h3, h4.swap1 hi rfl rfl ⟨h5, cs, h6, h.hl h7, h8⟩⟩
theorem Tr.reC {Q : Exit → Act → World → Prop} {c : Code} (j : Nat) {new : Bool} {b : Nat} {T : TypeId} {ps : List Pr} (qs : List Pr) (hi : rs[j]? = some (cellsRes new b T ps)) (h : LeL ps qs) (k : Tr P n E (Hp M0 w0 S (rs.set j (cellsRes new b T qs))) c Q) : Tr P n E (Hp M0 w0 S rs) c Q :=
  Tr.conv (fun _ _ hs => hs.reC j hi h) k
theorem Fin.reC {Q : Exit → Act → World → Prop} {e : Exit} (j : Nat) {new : Bool} {b : Nat} {T : TypeId} {ps : List Pr} (qs : List Pr) (hi : rs[j]? = some (cellsRes new b T ps)) (h : LeL ps qs) (k : Fin n E (Hp M0 w0 S (rs.set j (cellsRes new b T qs))) Q e) : Fin n E (Hp M0 w0 S rs) Q e :=
  Fin.conv (fun _ _ hs => hs.reC j hi h) k
end
end Cp
namespace Cp
open Go Go.RowKit Go.Great

section
variable {P : Program} {n : Nat} {E : Env} {M0 : Av} {w0 : World} {S : Nat → Prop} {rs : List Res}

/-- The slice of all of a block of m cells. -/
abbrev slB (m b : Nat) : Value := .slice (some ⟨b, 0, none⟩) m m
theorem TO.mkslice {ops : Array Oper} {o : Oper} {r : List Oper} {Q : Exit → Act → World → Prop} {d m by_ : Nat} {t e : TypeId} {x y : Operand} {z : Value} (hg : o.guard = none) (hd : o.dst = some d) (hn : d < n) (ho : o.op = .makeSlice t x y) (ht : P.underlying t = some (.slice e))
    (hs : sizeB P e = some 1) (hby : bytesB P e = some by_) (hz : zeroB P e = some [z]) (h1 : z.oneCell' = true) (hx : VL E x (int ((m : Nat) : Int))) (hy : VL E y (int ((m : Nat) : Int))) (hm : m ≤ maxLen) (hb : by_ * m ≤ 281474976710656)
    (k : ∀ b, TO P n ops r ((d, is (slB m b)) :: E) (Hp M0 w0 S (cellsRes true b e ((List.replicate m z).map is) :: rs)) Q) : TO P n ops (o :: r) E (Hp M0 w0 S rs) Q :=
  TO.eff hg fun K M w a hsz hdf he hI hK => by
    have hx1 : a.eval x = .int .i64 m := hx.ev (o := o) (looks_env he) (by simp [ho, Op.operands])
    have hy1 : a.eval y = .int .i64 m := hy.ev (o := o) (looks_env he) (by simp [ho, Op.operands])
    have hi : ∃ i, P.info? e = some i ∧ i.size = 1 ∧ i.bytes = by_ ∧ ∃ z', i.zero = some z' ∧ z'.cells = #[z] := by
      unfold sizeB at hs; unfold bytesB at hby; unfold zeroB at hz
      cases hi : P.info? e with
      | none => rw [hi] at hs; cases hs
      | some i =>
        rw [hi] at hs hby hz
        simp at hs hby hz
        obtain ⟨z', h2, h3⟩ := hz
        exact ⟨i, rfl, hs, hby, z', h2, by rw [← Array.toList_inj, h3]⟩
    obtain ⟨i, hi, hi1, hi2, z', hz1, hz2⟩ := hi
    have hmk : madeCells z'.cells m = (List.replicate m z).toArray := by
      rw [hz2]
      apply Array.ext
      · simp [madeCells]
      · intro j h1 h2
        simp [madeCells, Nat.mod_one]
    have hrun := run_make (P := P) w t e i z' ht hi hz1 .i64 .i64 (m : Int) (m : Int) (by omega) (Int.le_refl _) (by rw [hi2]; have h0 : ((by_ * m : Nat) : Int) ≤ 281474976710656 := Int.ofNat_le.2 hb; rw [← Int.natCast_mul]; exact h0) (by unfold maxLen at hm; omega)
    rw [hi1] at hrun
    simp only [Int.toNat_natCast, Nat.mul_one] at hrun
    rw [hmk] at hrun
    refine TO.val (v := slB m w.heap.size) (w' := w.alloc (.cells (List.replicate m z).toArray e)) ?_ ?_
    · simp [execOp, ho, hx1, hy1, hrun]
    · obtain ⟨h2, h3⟩ := HpH.add (T := e) hI (hl_is M w (List.replicate m z)) (fun c hc => by rw [List.eq_of_mem_replicate hc]; exact h1)
      refine hK _ _ _ _ (k w.heap.size) ⟨_, by rw [put_size]; exact hsz, by rw [put_defers]; exact hdf, ?_, h2⟩
      intro s p hp
      simp only [List.lookup] at hp
      by_cases hs : s = d
      · subst hs; simp at hp; subst hp; rw [hd, put_same (by rw [hsz]; exact hn)]; rfl
      · rw [show (s == d) = false by simpa using hs] at hp
        rw [hd, put_other hs]
        exact p.st _ _ _ _ _ h3 (he s p hp)
theorem okp_indexSl {I : Asn} {o : Oper} {t e : TypeId} {x y : Operand} {k : IntKind} {i : Int} {len cap sz b off : Nat} (ho : o.op = .indexAddr t x y) (ht : P.underlying t = some (.slice e)) (hz : sizeB P e = some sz) (hx : VL E x (is (.slice (some ⟨b, off, none⟩) len cap))) (hy : VL E y (is (.int k i)))
    (h0 : 0 ≤ i) (hl : i < len) : OpOK P I o E (ptr b (off + i.toNat * sz)) :=
  OpOK.same fun M w a he _ => by
    have h1 : a.eval x = _ := hx.ev he (by simp [ho, Op.operands])
    have h5 : a.eval y = .int k i := hy.ev he (by simp [ho, Op.operands])
    refine ⟨_, ?_, rfl⟩
    simp [execOp, ho, h1, h5, Instr.indexAt, asIntOf, run_underlying ht, run_size hz, h0, hl, addr_add]

theorem Tr.perm {Q : Exit → Act → World → Prop} {c : Code} {rs' : List Res} (hp : rs.Perm rs') (k : Tr P n E (Hp M0 w0 S rs') c Q) : Tr P n E (Hp M0 w0 S rs) c Q :=
  Tr.conv (fun _ _ ⟨M, h1, h2, h3, h4⟩ => ⟨M, h1, h2, h3, HpH.perm hp h4⟩) k
theorem Fin.perm {Q : Exit → Act → World → Prop} {ex : Exit} {rs' : List Res} (hp : rs.Perm rs') (k : Fin n E (Hp M0 w0 S rs') Q ex) : Fin n E (Hp M0 w0 S rs) Q ex :=
  Fin.conv (fun _ _ ⟨M, h1, h2, h3, h4⟩ => ⟨M, h1, h2, h3, HpH.perm hp h4⟩) k

end
end Cp
namespace Go.Proofs.YtgdlhajfajddiaaGreat
open Go Cp
theorem mixed : Tryz.prog.follows .mixedOrders = true := by kernel_rfl
theorem z1 : zeroB Tryz.prog 1 = some [.nilFunc] := by kernel_rfl
theorem z2 : zeroB Tryz.prog 2 = some [.int .i64 0] := by kernel_rfl
theorem sz3 : sizeB Tryz.prog 3 = some 1 := by kernel_rfl
theorem one3 : oneB Tryz.prog 3 = true := by kernel_rfl
theorem by3 : bytesB Tryz.prog 3 = some 8 := by kernel_rfl
theorem zo3 : ([.int .i64 0] : List Value).all (·.oneCell') = true := by kernel_rfl
theorem z3 : zeroB Tryz.prog 3 = some [.int .i64 0] := by kernel_rfl
theorem z4 : zeroB Tryz.prog 4 = some [.bool false] := by kernel_rfl
theorem sz5 : sizeB Tryz.prog 5 = some 1 := by kernel_rfl
theorem one5 : oneB Tryz.prog 5 = true := by kernel_rfl
theorem sz9 : sizeB Tryz.prog 9 = some 1 := by kernel_rfl
theorem one9 : oneB Tryz.prog 9 = true := by kernel_rfl
theorem by9 : bytesB Tryz.prog 9 = some 16 := by kernel_rfl
theorem z9 : zeroB Tryz.prog 9 = some [.string (ByteArray.mk #[])] := by kernel_rfl
theorem sz22 : sizeB Tryz.prog 22 = some 1 := by kernel_rfl
theorem one22 : oneB Tryz.prog 22 = true := by kernel_rfl
theorem z22 : zeroB Tryz.prog 22 = some [.slice none 0 0] := by kernel_rfl
theorem sz24 : sizeB Tryz.prog 24 = some 2 := by kernel_rfl
theorem agg24 : aggB Tryz.prog 24 = true := by kernel_rfl
theorem bl24 : ∀ ps, Tryz.prog.built 24 ps = Instr.fill (fun i => (#[(0, 1), (1, 1)] : Array (Nat × Nat))[i]?) ((List.replicate 2 (.int .i64 0)) : List Value).toArray ps := by intro ps; kernel_rfl
theorem zo24 : ((List.replicate 2 (.int .i64 0)) : List Value).all (·.oneCell') = true := by kernel_rfl
theorem z24 : zeroB Tryz.prog 24 = some (List.replicate 2 (.int .i64 0)) := by kernel_rfl
theorem fo24_0 : fieldOff Tryz.prog 24 0 = some 0 := by kernel_rfl
theorem fo24_1 : fieldOff Tryz.prog 24 1 = some 1 := by kernel_rfl
theorem sz26 : sizeB Tryz.prog 26 = some 11 := by kernel_rfl
theorem agg26 : aggB Tryz.prog 26 = true := by kernel_rfl
theorem by26 : bytesB Tryz.prog 26 = some 112 := by kernel_rfl
theorem bl26 : ∀ ps, Tryz.prog.built 26 ps = Instr.fill (fun i => (#[(0, 1), (1, 1), (2, 1), (3, 1), (4, 1), (5, 1), (6, 1), (7, 2), (9, 1), (10, 1)] : Array (Nat × Nat))[i]?) ([.int .i64 0, .string (ByteArray.mk #[]), .int .i64 0, .int .i64 0, .int .i64 0, .int .i64 0, .string (ByteArray.mk #[]), .int .i64 0, .int .i64 0, .int .i64 0, .string (ByteArray.mk #[])] : List Value).toArray ps := by intro ps; kernel_rfl
theorem zo26 : ([.int .i64 0, .string (ByteArray.mk #[]), .int .i64 0, .int .i64 0, .int .i64 0, .int .i64 0, .string (ByteArray.mk #[]), .int .i64 0, .int .i64 0, .int .i64 0, .string (ByteArray.mk #[])] : List Value).all (·.oneCell') = true := by kernel_rfl
theorem z26 : zeroB Tryz.prog 26 = some [.int .i64 0, .string (ByteArray.mk #[]), .int .i64 0, .int .i64 0, .int .i64 0, .int .i64 0, .string (ByteArray.mk #[]), .int .i64 0, .int .i64 0, .int .i64 0, .string (ByteArray.mk #[])] := by kernel_rfl
theorem fo26_0 : fieldOff Tryz.prog 26 0 = some 0 := by kernel_rfl
theorem fo26_1 : fieldOff Tryz.prog 26 1 = some 1 := by kernel_rfl
theorem fo26_2 : fieldOff Tryz.prog 26 2 = some 2 := by kernel_rfl
theorem fo26_3 : fieldOff Tryz.prog 26 3 = some 3 := by kernel_rfl
theorem fo26_4 : fieldOff Tryz.prog 26 4 = some 4 := by kernel_rfl
theorem fo26_5 : fieldOff Tryz.prog 26 5 = some 5 := by kernel_rfl
theorem fo26_6 : fieldOff Tryz.prog 26 6 = some 6 := by kernel_rfl
theorem fo26_7 : fieldOff Tryz.prog 26 7 = some 7 := by kernel_rfl
theorem fo26_8 : fieldOff Tryz.prog 26 8 = some 9 := by kernel_rfl
theorem fo26_9 : fieldOff Tryz.prog 26 9 = some 10 := by kernel_rfl
theorem sz31 : sizeB Tryz.prog 31 = some 1 := by kernel_rfl
theorem one31 : oneB Tryz.prog 31 = true := by kernel_rfl
theorem z31 : zeroB Tryz.prog 31 = some [.slice none 0 0] := by kernel_rfl
theorem sz53 : sizeB Tryz.prog 53 = some 1 := by kernel_rfl
theorem one53 : oneB Tryz.prog 53 = true := by kernel_rfl
theorem z53 : zeroB Tryz.prog 53 = some [.slice none 0 0] := by kernel_rfl
theorem sz55 : sizeB Tryz.prog 55 = some 4 := by kernel_rfl
theorem agg55 : aggB Tryz.prog 55 = true := by kernel_rfl
theorem by55 : bytesB Tryz.prog 55 = some 80 := by kernel_rfl
theorem bl55 : ∀ ps, Tryz.prog.built 55 ps = Instr.fill (fun i => (#[(0, 1), (1, 1), (2, 1), (3, 1)] : Array (Nat × Nat))[i]?) ([.int .i64 0, .slice none 0 0, .slice none 0 0, .slice none 0 0] : List Value).toArray ps := by intro ps; kernel_rfl
theorem zo55 : ([.int .i64 0, .slice none 0 0, .slice none 0 0, .slice none 0 0] : List Value).all (·.oneCell') = true := by kernel_rfl
theorem z55 : zeroB Tryz.prog 55 = some [.int .i64 0, .slice none 0 0, .slice none 0 0, .slice none 0 0] := by kernel_rfl
theorem fo55_0 : fieldOff Tryz.prog 55 0 = some 0 := by kernel_rfl
theorem fo55_1 : fieldOff Tryz.prog 55 1 = some 1 := by kernel_rfl
theorem fo55_2 : fieldOff Tryz.prog 55 2 = some 2 := by kernel_rfl
theorem fo55_3 : fieldOff Tryz.prog 55 3 = some 3 := by kernel_rfl
theorem bl88 : ∀ ps, Tryz.prog.built 88 ps = Instr.fill (fun i => (#[(0, 1), (1, 1)] : Array (Nat × Nat))[i]?) ([.slice none 0 0, .int .i64 0] : List Value).toArray ps := by intro ps; kernel_rfl
theorem zo88 : ([.slice none 0 0, .int .i64 0] : List Value).all (·.oneCell') = true := by kernel_rfl
theorem fo88_0 : fieldOff Tryz.prog 88 0 = some 0 := by kernel_rfl
theorem fo88_1 : fieldOff Tryz.prog 88 1 = some 1 := by kernel_rfl
theorem one104 : oneB Tryz.prog 104 = true := by kernel_rfl
theorem sz134 : sizeB Tryz.prog 134 = some 5 := by kernel_rfl
theorem agg134 : aggB Tryz.prog 134 = true := by kernel_rfl
theorem bl134 : ∀ ps, Tryz.prog.built 134 ps = Instr.fill (fun i => (#[(0, 1), (1, 1), (2, 1), (3, 1), (4, 1)] : Array (Nat × Nat))[i]?) ((List.replicate 5 (.slice none 0 0)) : List Value).toArray ps := by intro ps; kernel_rfl
theorem zo134 : ((List.replicate 5 (.slice none 0 0)) : List Value).all (·.oneCell') = true := by kernel_rfl
theorem z134 : zeroB Tryz.prog 134 = some (List.replicate 5 (.slice none 0 0)) := by kernel_rfl
theorem fo134_0 : fieldOff Tryz.prog 134 0 = some 0 := by kernel_rfl
theorem fo134_1 : fieldOff Tryz.prog 134 1 = some 1 := by kernel_rfl
theorem fo134_2 : fieldOff Tryz.prog 134 2 = some 2 := by kernel_rfl
theorem fo134_3 : fieldOff Tryz.prog 134 3 = some 3 := by kernel_rfl
theorem fo134_4 : fieldOff Tryz.prog 134 4 = some 4 := by kernel_rfl
theorem bl139 : ∀ ps, Tryz.prog.built 139 ps = Instr.fill (fun i => some (i * 1, 1)) ((List.replicate 400 (.int .i64 0)) : List Value).toArray ps := by intro ps; kernel_rfl
theorem zo139 : ((List.replicate 400 (.int .i64 0)) : List Value).all (·.oneCell') = true := by kernel_rfl
theorem one156 : oneB Tryz.prog 156 = true := by kernel_rfl
theorem sz157 : sizeB Tryz.prog 157 = some 1 := by kernel_rfl
theorem one157 : oneB Tryz.prog 157 = true := by kernel_rfl
theorem z157 : zeroB Tryz.prog 157 = some [.nilFunc] := by kernel_rfl
theorem one159 : oneB Tryz.prog 159 = true := by kernel_rfl
theorem sz211 : sizeB Tryz.prog 211 = some 1 := by kernel_rfl
theorem one211 : oneB Tryz.prog 211 = true := by kernel_rfl
theorem zo211 : ([.int .u64 0] : List Value).all (·.oneCell') = true := by kernel_rfl
theorem z211 : zeroB Tryz.prog 211 = some [.int .u64 0] := by kernel_rfl
theorem sz218 : sizeB Tryz.prog 218 = some 5 := by kernel_rfl
theorem agg218 : aggB Tryz.prog 218 = true := by kernel_rfl
theorem bl218 : ∀ ps, Tryz.prog.built 218 ps = Instr.fill (fun i => (#[(0, 1), (1, 1), (2, 1), (3, 1), (4, 1)] : Array (Nat × Nat))[i]?) ([.string (ByteArray.mk #[]), .int .i64 0, .int .i64 0, .slice none 0 0, .slice none 0 0] : List Value).toArray ps := by intro ps; kernel_rfl
theorem zo218 : ([.string (ByteArray.mk #[]), .int .i64 0, .int .i64 0, .slice none 0 0, .slice none 0 0] : List Value).all (·.oneCell') = true := by kernel_rfl
theorem z218 : zeroB Tryz.prog 218 = some [.string (ByteArray.mk #[]), .int .i64 0, .int .i64 0, .slice none 0 0, .slice none 0 0] := by kernel_rfl
theorem fo218_1 : fieldOff Tryz.prog 218 1 = some 1 := by kernel_rfl
theorem fo218_2 : fieldOff Tryz.prog 218 2 = some 2 := by kernel_rfl
theorem fo218_3 : fieldOff Tryz.prog 218 3 = some 3 := by kernel_rfl
theorem fo218_4 : fieldOff Tryz.prog 218 4 = some 4 := by kernel_rfl
theorem sz223 : sizeB Tryz.prog 223 = some 2 := by kernel_rfl
theorem bl223 : ∀ ps, Tryz.prog.built 223 ps = Instr.fill (fun i => (#[(0, 1), (1, 1)] : Array (Nat × Nat))[i]?) ([.string (ByteArray.mk #[]), .int .i64 0] : List Value).toArray ps := by intro ps; kernel_rfl
theorem zo223 : ([.string (ByteArray.mk #[]), .int .i64 0] : List Value).all (·.oneCell') = true := by kernel_rfl
theorem z223 : zeroB Tryz.prog 223 = some [.string (ByteArray.mk #[]), .int .i64 0] := by kernel_rfl
theorem fo223_1 : fieldOff Tryz.prog 223 1 = some 1 := by kernel_rfl
theorem sz243 : sizeB Tryz.prog 243 = some 115 := by kernel_rfl
theorem agg243 : aggB Tryz.prog 243 = true := by kernel_rfl
theorem bl243 : ∀ ps, Tryz.prog.built 243 ps = Instr.fill (fun i => some (i * 5, 5)) ([.string (ByteArray.mk #[]), .int .i64 0, .int .i64 0, .slice none 0 0, .slice none 0 0, .string (ByteArray.mk #[]), .int .i64 0, .int .i64 0, .slice none 0 0, .slice none 0 0, .string (ByteArray.mk #[]), .int .i64 0, .int .i64 0, .slice none 0 0, .slice none 0 0, .string (ByteArray.mk #[]), .int .i64 0, .int .i64 0, .slice none 0 0, .slice none 0 0, .string (ByteArray.mk #[]), .int .i64 0, .int .i64 0, .slice none 0 0, .slice none 0 0, .string (ByteArray.mk #[]), .int .i64 0, .int .i64 0, .slice none 0 0, .slice none 0 0, .string (ByteArray.mk #[]), .int .i64 0, .int .i64 0, .slice none 0 0, .slice none 0 0, .string (ByteArray.mk #[]), .int .i64 0, .int .i64 0, .slice none 0 0, .slice none 0 0, .string (ByteArray.mk #[]), .int .i64 0, .int .i64 0, .slice none 0 0, .slice none 0 0, .string (ByteArray.mk #[]), .int .i64 0, .int .i64 0, .slice none 0 0, .slice none 0 0, .string (ByteArray.mk #[]), .int .i64 0, .int .i64 0, .slice none 0 0, .slice none 0 0, .string (ByteArray.mk #[]), .int .i64 0, .int .i64 0, .slice none 0 0, .slice none 0 0, .string (ByteArray.mk #[]), .int .i64 0, .int .i64 0, .slice none 0 0, .slice none 0 0, .string (ByteArray.mk #[]), .int .i64 0, .int .i64 0, .slice none 0 0, .slice none 0 0, .string (ByteArray.mk #[]), .int .i64 0, .int .i64 0, .slice none 0 0, .slice none 0 0, .string (ByteArray.mk #[]), .int .i64 0, .int .i64 0, .slice none 0 0, .slice none 0 0, .string (ByteArray.mk #[]), .int .i64 0, .int .i64 0, .slice none 0 0, .slice none 0 0, .string (ByteArray.mk #[]), .int .i64 0, .int .i64 0, .slice none 0 0, .slice none 0 0, .string (ByteArray.mk #[]), .int .i64 0, .int .i64 0, .slice none 0 0, .slice none 0 0, .string (ByteArray.mk #[]), .int .i64 0, .int .i64 0, .slice none 0 0, .slice none 0 0, .string (ByteArray.mk #[]), .int .i64 0, .int .i64 0, .slice none 0 0, .slice none 0 0, .string (ByteArray.mk #[]), .int .i64 0, .int .i64 0, .slice none 0 0, .slice none 0 0, .string (ByteArray.mk #[]), .int .i64 0, .int .i64 0, .slice none 0 0, .slice none 0 0] : List Value).toArray ps := by intro ps; kernel_rfl
theorem zo243 : ([.string (ByteArray.mk #[]), .int .i64 0, .int .i64 0, .slice none 0 0, .slice none 0 0, .string (ByteArray.mk #[]), .int .i64 0, .int .i64 0, .slice none 0 0, .slice none 0 0, .string (ByteArray.mk #[]), .int .i64 0, .int .i64 0, .slice none 0 0, .slice none 0 0, .string (ByteArray.mk #[]), .int .i64 0, .int .i64 0, .slice none 0 0, .slice none 0 0, .string (ByteArray.mk #[]), .int .i64 0, .int .i64 0, .slice none 0 0, .slice none 0 0, .string (ByteArray.mk #[]), .int .i64 0, .int .i64 0, .slice none 0 0, .slice none 0 0, .string (ByteArray.mk #[]), .int .i64 0, .int .i64 0, .slice none 0 0, .slice none 0 0, .string (ByteArray.mk #[]), .int .i64 0, .int .i64 0, .slice none 0 0, .slice none 0 0, .string (ByteArray.mk #[]), .int .i64 0, .int .i64 0, .slice none 0 0, .slice none 0 0, .string (ByteArray.mk #[]), .int .i64 0, .int .i64 0, .slice none 0 0, .slice none 0 0, .string (ByteArray.mk #[]), .int .i64 0, .int .i64 0, .slice none 0 0, .slice none 0 0, .string (ByteArray.mk #[]), .int .i64 0, .int .i64 0, .slice none 0 0, .slice none 0 0, .string (ByteArray.mk #[]), .int .i64 0, .int .i64 0, .slice none 0 0, .slice none 0 0, .string (ByteArray.mk #[]), .int .i64 0, .int .i64 0, .slice none 0 0, .slice none 0 0, .string (ByteArray.mk #[]), .int .i64 0, .int .i64 0, .slice none 0 0, .slice none 0 0, .string (ByteArray.mk #[]), .int .i64 0, .int .i64 0, .slice none 0 0, .slice none 0 0, .string (ByteArray.mk #[]), .int .i64 0, .int .i64 0, .slice none 0 0, .slice none 0 0, .string (ByteArray.mk #[]), .int .i64 0, .int .i64 0, .slice none 0 0, .slice none 0 0, .string (ByteArray.mk #[]), .int .i64 0, .int .i64 0, .slice none 0 0, .slice none 0 0, .string (ByteArray.mk #[]), .int .i64 0, .int .i64 0, .slice none 0 0, .slice none 0 0, .string (ByteArray.mk #[]), .int .i64 0, .int .i64 0, .slice none 0 0, .slice none 0 0, .string (ByteArray.mk #[]), .int .i64 0, .int .i64 0, .slice none 0 0, .slice none 0 0, .string (ByteArray.mk #[]), .int .i64 0, .int .i64 0, .slice none 0 0, .slice none 0 0] : List Value).all (·.oneCell') = true := by kernel_rfl
theorem z243 : zeroB Tryz.prog 243 = some [.string (ByteArray.mk #[]), .int .i64 0, .int .i64 0, .slice none 0 0, .slice none 0 0, .string (ByteArray.mk #[]), .int .i64 0, .int .i64 0, .slice none 0 0, .slice none 0 0, .string (ByteArray.mk #[]), .int .i64 0, .int .i64 0, .slice none 0 0, .slice none 0 0, .string (ByteArray.mk #[]), .int .i64 0, .int .i64 0, .slice none 0 0, .slice none 0 0, .string (ByteArray.mk #[]), .int .i64 0, .int .i64 0, .slice none 0 0, .slice none 0 0, .string (ByteArray.mk #[]), .int .i64 0, .int .i64 0, .slice none 0 0, .slice none 0 0, .string (ByteArray.mk #[]), .int .i64 0, .int .i64 0, .slice none 0 0, .slice none 0 0, .string (ByteArray.mk #[]), .int .i64 0, .int .i64 0, .slice none 0 0, .slice none 0 0, .string (ByteArray.mk #[]), .int .i64 0, .int .i64 0, .slice none 0 0, .slice none 0 0, .string (ByteArray.mk #[]), .int .i64 0, .int .i64 0, .slice none 0 0, .slice none 0 0, .string (ByteArray.mk #[]), .int .i64 0, .int .i64 0, .slice none 0 0, .slice none 0 0, .string (ByteArray.mk #[]), .int .i64 0, .int .i64 0, .slice none 0 0, .slice none 0 0, .string (ByteArray.mk #[]), .int .i64 0, .int .i64 0, .slice none 0 0, .slice none 0 0, .string (ByteArray.mk #[]), .int .i64 0, .int .i64 0, .slice none 0 0, .slice none 0 0, .string (ByteArray.mk #[]), .int .i64 0, .int .i64 0, .slice none 0 0, .slice none 0 0, .string (ByteArray.mk #[]), .int .i64 0, .int .i64 0, .slice none 0 0, .slice none 0 0, .string (ByteArray.mk #[]), .int .i64 0, .int .i64 0, .slice none 0 0, .slice none 0 0, .string (ByteArray.mk #[]), .int .i64 0, .int .i64 0, .slice none 0 0, .slice none 0 0, .string (ByteArray.mk #[]), .int .i64 0, .int .i64 0, .slice none 0 0, .slice none 0 0, .string (ByteArray.mk #[]), .int .i64 0, .int .i64 0, .slice none 0 0, .slice none 0 0, .string (ByteArray.mk #[]), .int .i64 0, .int .i64 0, .slice none 0 0, .slice none 0 0, .string (ByteArray.mk #[]), .int .i64 0, .int .i64 0, .slice none 0 0, .slice none 0 0, .string (ByteArray.mk #[]), .int .i64 0, .int .i64 0, .slice none 0 0, .slice none 0 0] := by kernel_rfl
theorem sz251 : sizeB Tryz.prog 251 = some 2 := by kernel_rfl
theorem agg251 : aggB Tryz.prog 251 = true := by kernel_rfl
theorem bl251 : ∀ ps, Tryz.prog.built 251 ps = Instr.fill (fun i => some (i * 1, 1)) ((List.replicate 2 (.int .i64 0)) : List Value).toArray ps := by intro ps; kernel_rfl
theorem zo251 : ((List.replicate 2 (.int .i64 0)) : List Value).all (·.oneCell') = true := by kernel_rfl
theorem z251 : zeroB Tryz.prog 251 = some (List.replicate 2 (.int .i64 0)) := by kernel_rfl
theorem bl252 : ∀ ps, Tryz.prog.built 252 ps = Instr.fill (fun i => some (i * 2, 2)) ((List.replicate 10 (.int .i64 0)) : List Value).toArray ps := by intro ps; kernel_rfl
theorem zo252 : ((List.replicate 10 (.int .i64 0)) : List Value).all (·.oneCell') = true := by kernel_rfl
end Go.Proofs.YtgdlhajfajddiaaGreat
namespace Go.Proofs.YtgdlhajfajddiaaGreat
open Go Go.RowKit Cp

abbrev ints (l : List Int) : Pr := slice 1 (l.map fun n => [int n])

/-- The index of the first that p takes, -1 for none. -/
def idx {β : Type} (p : β → Bool) (l : List β) : Int := match l.findIdx? p with | some i => i | none => -1
theorem idx_found {β : Type} {p : β → Bool} {l : List β} {k : Nat} {x : β} (hx : l[k]? = some x) (hp : p x = true) (h : ∀ j y, j < k → l[j]? = some y → p y = false) : (k : Int) = idx p l := by
  have : l.findIdx? p = some k := by
    rw [List.findIdx?_eq_some_iff_getElem]
    have hk : k < l.length := by rcases Nat.lt_or_ge k l.length with h | h; exact h; rw [List.getElem?_eq_none h] at hx; cases hx
    rw [List.getElem?_eq_getElem hk] at hx
    simp only [Option.some.injEq] at hx
    refine ⟨hk, by rw [hx]; exact hp, fun j hj => ?_⟩
    simpa using h j _ hj (List.getElem?_eq_getElem (by omega))
  unfold idx; rw [this]
theorem idx_none {β : Type} {p : β → Bool} {l : List β} (h : ∀ j y, j < l.length → l[j]? = some y → p y = false) : (-1 : Int) = idx p l := by
  have : l.findIdx? p = none := by
    rw [List.findIdx?_eq_none_iff]
    intro x hx
    obtain ⟨j, hj, rfl⟩ := List.mem_iff_getElem.1 hx
    exact h j _ hj (List.getElem?_eq_getElem hj)
  unfold idx; rw [this]
theorem idx_any {β : Type} (p : β → Bool) (l : List β) : decide (idx p l ≥ 0) = l.any p := by
  unfold idx
  cases h : l.findIdx? p with
  | none => rw [List.findIdx?_eq_none_iff] at h; simp; intro x hx; simpa using h x hx
  | some i =>
    rw [List.findIdx?_eq_some_iff_getElem] at h
    obtain ⟨h1, h2, _⟩ := h
    simp
    exact ⟨_, List.getElem_mem h1, h2⟩
theorem step_no {β : Type} {p : β → Bool} {l : List β} {k : Nat} {x : β} (hx : l[k]? = some x) (hp : p x = false) (h : ∀ j y, j < k → l[j]? = some y → p y = false) : ∀ j y, j < k + 1 → l[j]? = some y → p y = false := by
  intro j y hj hy
  by_cases hjk : j = k
  · subst hjk; rw [hx] at hy; cases hy; exact hp
  · exact h j y (by omega) hy

set_option maxRecDepth 20000 in
theorem w_IndexI {l : List Int} {v : Int}  : Fun Tryz.prog 129 [ints l, int v] (int (idx (fun x => v == x) l)) := by
 refine Fun.of Tryz.func129 rfl rfl (by exact Nat.le_of_ble_eq_true rfl) fun M0 w0 => ?_
 refine Tr.lenm 0 rfl fun hlm_0 => (Tr.seq (Tr.reg0 (cm rfl (Ch.nil (Fin.go (Tr.seq (Tr.seq (Tr.reg0 (cm rfl (co rfl (ok_lenm rfl Tryz.underlying22 (vl rfl)) (cm rfl (Ch.nil (Fin.go (Tr.block ?_))))))))))))))
 refine Tr.loopw [(0, _), (1, _), (7, _)] (kk3 rfl) (fun k : Nat => [(8, int ((k : Nat) : Int))]) (fun k : Nat => k ≤ (l).length ∧ (∀ j y, j < k → l[j]? = some y → (v == y) = false)) (fun k : Nat => (l).length - k) 0 (⟨Nat.zero_le _, fun j y hj => absurd hj (by omega)⟩) ⟨ke rfl, trivial⟩ ?_
 rintro k ⟨hle_k, hinv_k⟩
 refine Tr.seq (Tr.reg0 (co rfl (ki rfl rfl rfl rfl) (Ch.nil (Fin.go (Tr.seq ?_)))))
 refine Tr.cn rfl ?_ ?_ <;> intro h1 q1
 have hk_k : k < (l).length := lt_of_dec h1
 obtain ⟨x, hx_k⟩ := at_ hk_k
 refine Tr.skip (Fin.go (Tr.seq (Tr.block (Tr.seq (Tr.reg0 (cm rfl (cm rfl (Ch.nil (Fin.go (Tr.seq (Tr.reg0 (cm rfl (cm rfl ?_)))))))))))))
 refine cm rfl (co rfl (ok_indexAddr rfl Tryz.underlying22 sz3 (vl rfl) (vl rfl) (by omega) (by exact row_at (by assumption))) ?_)
 refine co rfl (kl1 rfl one3 rfl) (co rfl (ki rfl rfl rfl rfl) (Ch.nil (Fin.go ?_)))
 refine Tr.cn rfl ?_ ?_ <;> intro h2 q2
 refine Tr.seq (Tr.reg0 (cm rfl (cm rfl (Ch.nil (Fin.go (wk1 4 rfl (Tr.ret (Fin.block_ret (Fin.then_ret (Fin.then_ret (Fin.block_ret (Fin.then_ret (Fin.ret1 rfl (OutW.bse _ _) rfl ?_)))))))))))))
 · exact int_eq (idx_found (p := fun x => v == x) hx_k (by assumption) hinv_k)
 refine Tr.skip (Fin.block (Fin.go (Tr.reg0 (cad rfl rfl rfl rfl (by omega) (cm rfl (Ch.nil (Fin.fam_same (k + 1) ⟨⟨hk_k, step_no (p := fun x => v == x) hx_k (by assumption) hinv_k⟩, by omega⟩ ⟨⟨_, rfl, int_succ k⟩, ke rfl, ke rfl, ke rfl, trivial⟩)))))))
 have he_k : k = (l).length := by have := ge_of_dec h1; omega
 subst he_k
 refine Tr.exit (Fin.then_exit (Fin.then_exit (Fin.block_here (Fin.go (Tr.seq (Tr.reg0 (cm rfl (Ch.nil (Fin.go (Tr.ret (Fin.ret1 rfl (OutW.bse _ _) rfl ?_)))))))))))
 · exact int_eq (idx_none hinv_k)
set_option maxRecDepth 20000 in
theorem w_ContainsI {l : List Int} {v : Int}  : Fun Tryz.prog 79 [ints l, int v] (bool (l.any fun x => v == x)) := by
 refine Fun.of Tryz.func79 rfl rfl (by exact Nat.le_of_ble_eq_true rfl) fun M0 w0 => ?_
 refine Tr.seq (Tr.reg0 (cm rfl (Ch.nil (Fin.go (Tr.seq (Tr.reg0 (cm rfl (cm rfl (co rfl (ok_call rfl (w_IndexI) ⟨ke rfl, ke rfl, trivial⟩) (co rfl (ki rfl rfl rfl rfl) (cm rfl (Ch.nil (Fin.go (Tr.ret ?_))))))))))))))
 refine Fin.ret1 rfl (OutW.bse _ _) rfl ?_
 · exact bool_eq (idx_any _ l)
end Go.Proofs.YtgdlhajfajddiaaGreat
namespace Cp
open Go Go.RowKit Go.Great

section
variable {P : Program} {n : Nat} {E : Env} {M0 : Av} {w0 : World} {S : Nat → Prop} {rs : List Res} {o : Oper}

/-- A slice of m elements. -/
def lens (m : Nat) : Pr where
  h _ _ v := ∃ a c, v = .slice a m c
  st _M _w _M' _w' _v _ h := h
instance one_lens (m : Nat) : One (lens m) := ⟨by rintro M w v ⟨a, c, rfl⟩; exact ⟨rfl, rfl⟩⟩
/-- The elements of this slice are ours, and what lies behind them. -/
def mutRes (e : TypeId) (sz : Nat) (rows : List (List Pr)) (v : Value) : Res where
  blk := match v with | .slice (some a) _ _ => some a.block | _ => none
  new := true
  h M w := ∃ (b cap : Nat) (spare : List Value), v = .slice (some ⟨b, 0, none⟩) rows.length cap ∧ rows.length ≤ cap ∧ cap ≤ maxLen ∧ spare.length = (cap - rows.length) * sz ∧ (cellsRes true b e (rows.flatten ++ spare.map is)).h M w
  st M w M' w' he hk h := by
    obtain ⟨b, cap, spare, rfl, h1, h2, h3, h4⟩ := h
    exact ⟨b, cap, spare, rfl, h1, h2, h3, (cellsRes true b e _).st _ _ _ _ he hk h4⟩

theorem flat_at {sz : Nat} : ∀ {rows : List (List Pr)} {i j : Nat} {row : List Pr}, (∀ r ∈ rows, r.length = sz) → rows[i]? = some row → j < sz → rows.flatten[i * sz + j]? = row[j]?
  | [], _, _, _, _, h, _ => by simp at h
  | a :: l, 0, j, row, hl, h, hj => by
    simp at h; subst h
    have := hl a (by simp)
    rw [List.flatten_cons, Nat.zero_mul, Nat.zero_add, List.getElem?_append_left (by omega)]
  | a :: l, i + 1, j, row, hl, h, hj => by
    have h1 := hl a (by simp)
    rw [List.flatten_cons, Nat.succ_mul, List.getElem?_append_right (by omega), h1, show i * sz + sz + j - sz = i * sz + j by omega]
    exact flat_at (fun r hr => hl r (List.mem_cons_of_mem _ hr)) (by simpa using h) hj
theorem flat_len {sz : Nat} : ∀ {rows : List (List Pr)}, (∀ r ∈ rows, r.length = sz) → rows.flatten.length = rows.length * sz
  | [], _ => by simp
  | a :: l, h => by
    rw [List.flatten_cons, List.length_append, flat_len (fun r hr => h r (List.mem_cons_of_mem _ hr)), h a (by simp), List.length_cons, Nat.succ_mul]; omega
theorem hl_of {M : Av} {w : World} : ∀ {ps : List Pr} {vs : List Value}, vs.length = ps.length → (∀ (k : Nat) p, ps[k]? = some p → ∃ u, vs[k]? = some u ∧ p.h M w u) → HL M w ps vs
  | [], [], _, _ => trivial
  | [], _ :: _, h, _ => by simp at h
  | _ :: _, [], h, _ => by simp at h
  | p :: ps, v :: vs, h, hk => by
    refine ⟨?_, hl_of (by simpa using h) fun k q hq => by simpa using hk (k + 1) q (by simpa using hq)⟩
    obtain ⟨u, hu, hp⟩ := hk 0 p rfl
    simp at hu; subst hu; exact hp
theorem Flat.hl {M : Av} {w : World} {sz : Nat} {rows : List (List Pr)} {news : List Value} (hsz : 0 < sz) (h : Flat M w sz rows news) : HL M w rows.flatten news := by
  have hl : ∀ r ∈ rows, r.length = sz := fun r hr => by obtain ⟨i, hi⟩ := List.mem_iff_getElem?.1 hr; exact (h.2.2 i r hi).1
  refine hl_of (by rw [h.1, flat_len hl]) fun k p hk => ?_
  have hkl : k < rows.length * sz := by rw [← flat_len hl]; rcases Nat.lt_or_ge k rows.flatten.length with h | h; exact h; rw [List.getElem?_eq_none h] at hk; cases hk
  have hi : k / sz < rows.length := Nat.div_lt_of_lt_mul (by rw [Nat.mul_comm]; exact hkl)
  have hj : k % sz < sz := Nat.mod_lt _ hsz
  have he : k / sz * sz + k % sz = k := by rw [Nat.mul_comm]; exact Nat.div_add_mod k sz
  have hr := List.getElem?_eq_getElem hi
  rw [← he, flat_at hl hr hj] at hk
  obtain ⟨u, hu, hp⟩ := (h.2.2 _ _ hr).2 _ p hk
  exact ⟨u, by rw [← he]; exact hu, hp⟩
theorem HL.flat {M : Av} {w : World} {sz : Nat} {rows : List (List Pr)} {qs : List Pr} {cs : List Value} (hl : ∀ r ∈ rows, r.length = sz) (h : HL M w (rows.flatten ++ qs) cs) (h1 : ∀ c ∈ cs, c.oneCell' = true) : Flat M w sz rows (cs.take (rows.length * sz)) := by
  have hfl := flat_len hl
  have hlen := h.length
  refine ⟨by rw [List.length_take, hlen, List.length_append, hfl]; omega, fun u hu => h1 u (List.mem_of_mem_take hu), fun i row hi => ?_⟩
  have hrl := hl row (List.mem_of_getElem? hi)
  refine ⟨hrl, fun j p hp => ?_⟩
  have hjl : j < sz := by rw [← hrl]; rcases Nat.lt_or_ge j row.length with h | h; exact h; rw [List.getElem?_eq_none h] at hp; cases hp
  have hil : i < rows.length := by rcases Nat.lt_or_ge i rows.length with h | h; exact h; rw [List.getElem?_eq_none h] at hi; cases hi
  have hlt : i * sz + j < rows.length * sz := by have : (i + 1) * sz ≤ rows.length * sz := Nat.mul_le_mul_right sz hil; rw [Nat.add_mul] at this; omega
  obtain ⟨u, hu, hh⟩ := h.at_ (i * sz + j) p (by rw [List.getElem?_append_left (by rw [hfl]; exact hlt), flat_at hl hi hjl]; exact hp)
  exact ⟨u, by rw [List.getElem?_take, if_pos hlt]; exact hu, hh⟩
theorem zeroCells_one {zs : List Value} {z : Array Value} {k : Nat} (hz : z.toList = zs) (h1 : zs.all (·.oneCell') = true) : ∀ c ∈ (Builtin.zeroCells z k).toList, c.oneCell' = true := by
  intro c hc
  simp only [Builtin.zeroCells, Array.toList_map, Array.toList_range, List.mem_map, List.mem_range] at hc
  obtain ⟨i, hi, rfl⟩ := hc
  have hpos : 0 < z.size := by rcases Nat.eq_zero_or_pos z.size with h | h; rw [h] at hi; simp at hi; exact h
  have hm : i % z.size < z.size := Nat.mod_lt _ hpos
  rw [getElem!_pos z _ hm]
  exact List.all_eq_true.1 h1 _ (by rw [← hz]; simp)

/-- append onto nothing: a new block, ours. -/
theorem app_new {M : Av} {w : World} {t ty e : TypeId} {sz bytes : Nat} {zs : List Value} {rows : List (List Pr)} {u : Value} {j : Nat} (ht : P.underlying t = some (.slice e)) (hz : sizeB P e = some sz) (hby : bytesB P e = some bytes) (hze : zeroB P e = some zs) (hzl : zs.length = sz) (hone : zs.all (·.oneCell') = true) (hsz : 0 < sz)
    (h : HpH M0 w0 S rs M w) (hj : rs[j]? = some noRes) (hu : (slice sz rows).h M w u) (hpos : 0 < rows.length) (hmax : rows.length ≤ maxLen) (hfit : rows.length * bytes ≤ 140737488355328) :
    ∃ v' w' M', (Builtin.append_ #[t, t] ty #[.slice none 0 0, u]).run P w = .ok v' w' ∧ (lens rows.length).h M' w' v' ∧ Ext M w M' w' ∧ HpH M0 w0 S (rs.set j (mutRes e sz rows v')) M' w' := by
  unfold sizeB at hz
  unfold bytesB at hby
  unfold zeroB at hze
  cases hi : P.info? e with
  | none => rw [hi] at hz; cases hz
  | some i =>
    rw [hi] at hz hby hze
    simp only [Option.map_some, Option.some.injEq, Option.map_eq_some_iff] at hz hby hze
    obtain ⟨z, hzz, hze⟩ := hze
    have hzc : z.cells.size = sz := by rw [← hzl, ← hze]; simp
    obtain ⟨A', c', rfl, hmc, hcm', hA', hrows'⟩ := hu
    have hu0 : (slice sz rows).h M w (.slice A' rows.length c') := ⟨A', c', rfl, hmc, hcm', hA', hrows'⟩
    obtain ⟨ad', rfl⟩ : ∃ ad', A' = some ad' := by
      obtain ⟨_, b, hb, _⟩ := hrows' 0 _ (List.getElem?_eq_getElem hpos)
      exact ⟨b, hb⟩
    obtain ⟨news, hfl, hcell⟩ := slice_flat hsz hu0
    have hrun := run_append_nil (P := P) w t ty e i z ht hi hzz ad' rows.length c' news (by rw [hz]; exact hfl.1) (fun k u hk => (hcell k u hk).1) hpos (by unfold maxLen at hmax; omega) (by rw [hby]; omega)
    generalize hcap : grownCap w rows.length 0 e = cap at hrun
    have hge : rows.length ≤ cap := by rw [← hcap]; exact grownCap_ge _ _ _ _
    have hle : cap ≤ maxLen := by rw [← hcap]; exact grownCap_le_maxLen _ _ _ _ hmax
    generalize hzc' : Builtin.zeroCells z.cells (cap - rows.length) = zc at hrun
    have hzs : zc.size = (cap - rows.length) * sz := by rw [← hzc', size_zeroCells, hzc]
    have hzo : ∀ c ∈ zc.toList, c.oneCell' = true := by rw [← hzc']; exact zeroCells_one hze hone
    have hb : Below w.heap.size w (w.drew.alloc (.cells (news.toArray ++ zc) e)) := ((Below.refl _ _).drew).alloc (Nat.le_refl _) _
    have h2 := Ext.below (M := M) hb
    have hext : Ext M w (fun b o => M b o ∨ b = w.heap.size) (w.drew.alloc (.cells (news.toArray ++ zc) e)) := by
      refine ⟨h2.size, fun a v hc hm => ⟨fun hx => ?_, (h2.keep a v hc hm).2⟩, fun b o ho hp hm => ⟨fun hx => ?_, (h2.obj b o ho hp hm).2⟩⟩
      · rcases hx with hx | hx
        · exact hm hx
        · have := cell_lt hc; omega
      · rcases hx with hx | hx
        · exact hm hx
        · subst hx; simp at ho
    have hs1 : (w.drew.alloc (.cells (news.toArray ++ zc) e)).heap.size = w.heap.size + 1 := by simp
    refine ⟨_, _, fun b o => M b o ∨ b = w.heap.size, hrun, ⟨_, _, rfl⟩, hext, ?_⟩
    refine h.replace hj hext hb.os hb.tape hb.output (fun k hk _ => hb.block k hk) rfl (fun b o hm _ => .inl hm) (fun b o hx => ?_) ?_ rfl (fun b hbk => ?_)
    · rcases hx with hx | hx
      · have := h.bd _ _ hx; omega
      · omega
    · refine ⟨w.heap.size, cap, zc.toList, rfl, hge, hle, by simpa using hzs, fun o => .inr rfl, news ++ zc.toList, ?_, ?_, ?_⟩
      · have hh : (w.drew.alloc (.cells (news.toArray ++ zc) e)).heap[w.heap.size]? = some (.cells (news.toArray ++ zc) e (0, 0)) := heap_alloc_new w.drew _
        rw [hh]; simp
      · exact ((hfl.st hext).hl hsz).app (hl_is _ _ _)
      · intro c hc
        rcases List.mem_append.1 hc with hc | hc
        · exact hfl.2.1 c hc
        · exact hzo c hc
    · have hbk' : some w.heap.size = some b := hbk
      injection hbk' with e1
      subst e1
      exact ⟨by rw [hs1]; omega, .inr (Nat.le_refl _)⟩
/-- Where it lies. -/
theorem St.openM {e : TypeId} {sz : Nat} {rows : List (List Pr)} {v : Value} (j : Nat) (hj : rs[j]? = some (mutRes e sz rows v)) {a : Act} {w : World} (h : St n E (Hp M0 w0 S rs) a w) :
    ∃ (b cap : Nat) (spare : List Value), v = .slice (some ⟨b, 0, none⟩) rows.length cap ∧ rows.length ≤ cap ∧ cap ≤ maxLen ∧ spare.length = (cap - rows.length) * sz ∧ St n E (Hp M0 w0 S (rs.set j (cellsRes true b e (rows.flatten ++ spare.map is)))) a w := by
  obtain ⟨M, h1, h2, h3, h4⟩ := h
  have h4 : HpH M0 w0 S rs M w := h4
  obtain ⟨b, cap, spare, rfl, h5, h6, h7, h8⟩ := (h4.hold _ (List.mem_of_getElem? hj)).1
  exact ⟨b, cap, spare, rfl, h5, h6, h7, M, h1, h2, h3, h4.swap1 hj rfl rfl h8⟩
theorem Tr.openM {Q : Exit → Act → World → Prop} {c : Code} {e : TypeId} {sz : Nat} {rows : List (List Pr)} {v : Value} (j : Nat) (hj : rs[j]? = some (mutRes e sz rows v))
    (k : ∀ (b cap : Nat) (spare : List Value), v = .slice (some ⟨b, 0, none⟩) rows.length cap → rows.length ≤ cap → cap ≤ maxLen → spare.length = (cap - rows.length) * sz → Tr P n E (Hp M0 w0 S (rs.set j (cellsRes true b e (rows.flatten ++ spare.map is)))) c Q) : Tr P n E (Hp M0 w0 S rs) c Q :=
  fun a w hs => let ⟨b, cap, spare, h1, h2, h3, h4, h5⟩ := hs.openM j hj; k b cap spare h1 h2 h3 h4 a w h5
theorem Fin.openM {Q : Exit → Act → World → Prop} {ex : Exit} {e : TypeId} {sz : Nat} {rows : List (List Pr)} {v : Value} (j : Nat) (hj : rs[j]? = some (mutRes e sz rows v))
    (k : ∀ (b cap : Nat) (spare : List Value), v = .slice (some ⟨b, 0, none⟩) rows.length cap → rows.length ≤ cap → cap ≤ maxLen → spare.length = (cap - rows.length) * sz → Fin n E (Hp M0 w0 S (rs.set j (cellsRes true b e (rows.flatten ++ spare.map is)))) Q ex) : Fin n E (Hp M0 w0 S rs) Q ex :=
  fun a w hs => let ⟨b, cap, spare, h1, h2, h3, h4, h5⟩ := hs.openM j hj; k b cap spare h1 h2 h3 h4 a w h5

/-- Nobody turns its elements any more; there may be room behind them. -/
theorem HpH.frz {M : Av} {w : World} {b cap sz : Nat} {e : TypeId} {rows : List (List Pr)} {qs : List Pr} {j : Nat} (h : HpH M0 w0 S rs M w) (hj : rs[j]? = some (cellsRes true b e (rows.flatten ++ qs))) (hl : ∀ r ∈ rows, r.length = sz) (hc : rows.length ≤ cap) (hm : cap ≤ maxLen) (hq : qs.length = (cap - rows.length) * sz) :
    ∃ M', Ext M w M' w ∧ HpH M0 w0 S (rs.set j (appRes e sz (.slice (some ⟨b, 0, none⟩) rows.length cap))) M' w ∧ (slice sz rows).h M' w (.slice (some ⟨b, 0, none⟩) rows.length cap) := by
  obtain ⟨⟨hM, cs, hh, hcs, hone⟩, hbb⟩ := h.hold _ (List.mem_of_getElem? hj)
  have hbl := (hbb b rfl).1
  have hfl := HL.flat hl hcs hone
  have hlen := hcs.length
  rw [List.length_append, flat_len hl, hq, ← Nat.add_mul, show rows.length + (cap - rows.length) = cap by omega] at hlen
  have he : Ext M w (fun b' o => M b' o ∧ ¬ (b' = b ∧ o < rows.length * sz)) w := Ext.less fun _ _ h => h.1
  refine ⟨_, he, ?_, slice_of_flat (hfl.st he) hc hm fun k u hk => ?_⟩
  · refine h.replace hj he rfl rfl rfl (fun _ _ _ => rfl) rfl (fun b' o hm' hne => ⟨hm', fun hx => hne (by rw [hx.1]; rfl)⟩) (fun b' o hx => h.bd _ _ hx.1) ?_ rfl (fun b' hbk => ?_)
    · intro a' n' c' hv hlt
      injection hv with e1 e2 e3
      injection e1 with e1
      subst e1; subst e2; subst e3
      refine ⟨⟨cs.take (rows.length * sz), hfl.1, .inr ⟨b, cap, cs.toArray, rfl, Nat.zero_le _, hh, hc, hm, by simpa using hlen, by simp⟩⟩, fun o ho => ⟨hM o, fun hx => by omega⟩⟩
    · have hbk' : appBlk (.slice (some ⟨b, 0, none⟩) rows.length cap) = some b' := hbk
      simp only [appBlk] at hbk'
      split at hbk'
      · simp at hbk'; subst hbk'; exact ⟨hbl, .inl rfl⟩
      · cases hbk'
  · have hkl : k < rows.length * sz := by rw [← hfl.1]; rcases Nat.lt_or_ge k (cs.take (rows.length * sz)).length with h | h; exact h; rw [List.getElem?_eq_none h] at hk; cases hk
    rw [List.getElem?_take, if_pos hkl] at hk
    exact ⟨by simp [World.cell?, hh, hk], fun hx => hx.2 ⟨rfl, hkl⟩⟩
end
end Cp
namespace Cp
open Go Go.RowKit Go.Great

/-- This text. -/
abbrev str (l : List UInt8) : Pr := is (.string ⟨l.toArray⟩)
theorem str_toList (l : List UInt8) : (ByteArray.mk l.toArray).toList = l := by rw [ByteArray.toList_eq]
theorem str_size (l : List UInt8) : (ByteArray.mk l.toArray).size = l.length := rfl
theorem str_eq {a b : List UInt8} (h : a = b) : Pr.le (str a) (str b) := Pr.le_of_eq (by rw [h])
section
variable {P : Program} {E : Env} {I : Asn} {o : Oper}
theorem ok_eqs {t u : TypeId} {x y : Operand} {a b : List UInt8} (ho : o.op = .binOp .eql t x y u) (hx : VL E x (str a)) (hy : VL E y (str b)) : OpOK P I o E (bool (decide (a = b))) :=
  OpOK.same fun M w ac he _ => by
    have h1 : ac.eval x = _ := hx.ev he (by simp [ho, Op.operands])
    have h2 : ac.eval y = _ := hy.ev he (by simp [ho, Op.operands])
    refine ⟨_, by simp [execOp, ho, h1, h2, eqGuard, binOp, Op.stringOp, str_toList]; rfl, ?_⟩
    show Value.bool _ = Value.bool _
    congr 1
    rw [Bool.eq_iff_iff]; simp
theorem ok_nes {t u : TypeId} {x y : Operand} {a b : List UInt8} (ho : o.op = .binOp .neq t x y u) (hx : VL E x (str a)) (hy : VL E y (str b)) : OpOK P I o E (bool (!decide (a = b))) :=
  OpOK.same fun M w ac he _ => by
    have h1 : ac.eval x = _ := hx.ev he (by simp [ho, Op.operands])
    have h2 : ac.eval y = _ := hy.ev he (by simp [ho, Op.operands])
    refine ⟨_, by simp [execOp, ho, h1, h2, eqGuard, binOp, Op.stringOp, str_toList]; rfl, ?_⟩
    show Value.bool _ = Value.bool _
    congr 1
    rw [Bool.eq_iff_iff]; simp

theorem cmp_less : ∀ (a b : List UInt8), Op.bytesLess a b = decide (Lib.compareBytes a b = -1)
  | _, [] => by cases ‹List UInt8› <;> simp [Op.bytesLess, Lib.compareBytes]
  | [], _ :: _ => by simp [Op.bytesLess, Lib.compareBytes]
  | a :: x, b :: y => by
    rw [Op.bytesLess, cmp_less x y, Lib.compareBytes]
    by_cases h1 : a < b
    · simp [h1]
    · by_cases h2 : b < a
      · have h3 : a ≠ b := fun e => by subst e; exact h1 h2
        simp [h1, h2, h3]
      · have h3 : a = b := UInt8.le_antisymm (UInt8.not_lt.1 h2) (UInt8.not_lt.1 h1)
        simp [h1, h2, h3]
theorem cmp_zero : ∀ (a b : List UInt8), Lib.compareBytes a b = 0 ↔ a = b
  | [], [] => by simp [Lib.compareBytes]
  | [], _ :: _ => by simp [Lib.compareBytes]
  | _ :: _, [] => by simp [Lib.compareBytes]
  | a :: x, b :: y => by
    rw [Lib.compareBytes]
    by_cases h1 : a < b
    · simp only [h1, if_true]
      constructor
      · intro h; cases h
      · intro h; injection h with e _; subst e; exact absurd h1 (UInt8.lt_irrefl _)
    · by_cases h2 : b < a
      · simp only [h1, h2, if_true, if_false]
        constructor
        · intro h; cases h
        · intro h; injection h with e _; subst e; exact absurd h2 (UInt8.lt_irrefl _)
      · have h3 : a = b := UInt8.le_antisymm (UInt8.not_lt.1 h2) (UInt8.not_lt.1 h1)
        rw [if_neg h1, if_neg h2, cmp_zero x y]; simp [h3]
theorem cmp_swap : ∀ (a b : List UInt8), Lib.compareBytes b a = - Lib.compareBytes a b
  | [], [] => rfl
  | [], _ :: _ => rfl
  | _ :: _, [] => rfl
  | a :: x, b :: y => by
    rw [Lib.compareBytes, Lib.compareBytes, cmp_swap x y]
    by_cases h1 : a < b
    · have h2 : ¬ b < a := fun h => UInt8.lt_asymm h1 h
      simp [h1, h2]
    · by_cases h2 : b < a <;> simp [h1, h2]
theorem cmp_in : ∀ (a b : List UInt8), Lib.compareBytes a b = -1 ∨ Lib.compareBytes a b = 0 ∨ Lib.compareBytes a b = 1
  | [], [] => by simp [Lib.compareBytes]
  | [], _ :: _ => by simp [Lib.compareBytes]
  | _ :: _, [] => by simp [Lib.compareBytes]
  | a :: x, b :: y => by
    rw [Lib.compareBytes]
    split
    · simp
    · split
      · simp
      · exact cmp_in x y
theorem ok_lts {t u : TypeId} {x y : Operand} {a b : List UInt8} (ho : o.op = .binOp .lss t x y u) (hx : VL E x (str a)) (hy : VL E y (str b)) : OpOK P I o E (bool (decide (Lib.compareBytes a b = -1))) :=
  OpOK.same fun M w ac he _ => by
    have h1 : ac.eval x = _ := hx.ev he (by simp [ho, Op.operands])
    have h2 : ac.eval y = _ := hy.ev he (by simp [ho, Op.operands])
    exact ⟨_, by simp [execOp, ho, h1, h2, eqGuard, binOp, Op.stringOp, str_toList, cmp_less], rfl⟩
theorem ok_gts {t u : TypeId} {x y : Operand} {a b : List UInt8} (ho : o.op = .binOp .gtr t x y u) (hx : VL E x (str a)) (hy : VL E y (str b)) : OpOK P I o E (bool (decide (Lib.compareBytes a b = 1))) :=
  OpOK.same fun M w ac he _ => by
    have h1 : ac.eval x = _ := hx.ev he (by simp [ho, Op.operands])
    have h2 : ac.eval y = _ := hy.ev he (by simp [ho, Op.operands])
    refine ⟨_, by simp [execOp, ho, h1, h2, eqGuard, binOp, Op.stringOp, str_toList, cmp_less]; rfl, ?_⟩
    show Value.bool _ = Value.bool _
    congr 1
    rw [Bool.eq_iff_iff]
    have h3 := cmp_zero a b
    rcases cmp_in a b with h | h | h
    · simp [h]
    · have h4 := h3.1 h
      rw [h]; simp [h4]
    · have : a ≠ b := fun e => by have := h3.2 e; omega
      simp [h, this]
theorem ok_cmpstr {f : FuncId} {fn : Func} {x y : Operand} {ts : Array TypeId} {a b : List UInt8} (ho : o.op = .call { callee := .value (.func f), args := #[x, y], argTypes := ts }) (hf : P.funcs[f]? = some fn) (hname : (fn.name == "runtime.NumGoroutine") = false)
    (hb : fn.body.isNone = true) (hn : Extern.findNext fn = none) (hex : Extern.find fn = some Extern.BytealgCompare.compare) (hx : VL E x (str a)) (hy : VL E y (str b)) : OpOK P I o E (int (Lib.compareBytes a b)) :=
  OpOK.same fun M w ac he _ => by
    have h1 : ac.eval x = _ := hx.ev he (by simp [ho, Op.operands, Call.operands])
    have h2 : ac.eval y = _ := hy.ev he (by simp [ho, Op.operands, Call.operands])
    have h3 : ac.eval (.func f) = .func (.func f) #[] #[] := rfl
    refine ⟨_, ?_, rfl⟩
    have hrun : (execOp ac.eval o).run P w = (callFunc f #[ac.eval x, ac.eval y]).run P w := by simp [execOp, ho, resolve, Deferred.ofValue, invoke, h3]
    rw [hrun, h1, h2, run_callFunc_extern hf hname hb hn hex, Lib.run_compareString]
    rfl

theorem ok_lens {t : TypeId} {x : Operand} {a : List UInt8} (ho : o.op = .call { callee := .builtin .len, args := #[x], argTypes := #[t] }) (ht : P.underlying t = some .string) (hx : VL E x (str a)) : OpOK P I o E (int ((a.length : Nat) : Int)) :=
  OpOK.same fun M w ac he _ => by
    have h1 : ac.eval x = _ := hx.ev he (by simp [ho, Op.operands, Call.operands])
    exact ⟨.int .i64 a.length, by simp [execOp, ho, resolve, invoke, builtin, Builtin.len_, h1, run_underlying ht, goInt, str_size], rfl⟩
theorem ok_sidx {t : TypeId} {x y : Operand} {k : IntKind} {a : List UInt8} {i : Int} {c : UInt8} (ho : o.op = .index t x y) (ht : P.underlying t = some .string) (hx : VL E x (str a)) (hy : VL E y (is (.int k i))) (h0 : 0 ≤ i) (hc : a[i.toNat]? = some c) : OpOK P I o E (is (.int .u8 c.toNat)) :=
  OpOK.same fun M w ac he _ => by
    have h1 : ac.eval x = _ := hx.ev he (by simp [ho, Op.operands])
    have h2 : ac.eval y = _ := hy.ev he (by simp [ho, Op.operands])
    refine ⟨_, ?_, rfl⟩
    have hlt : i.toNat < a.length := by rcases Nat.lt_or_ge i.toNat a.length with h | h; exact h; rw [List.getElem?_eq_none h] at hc; cases hc
    have h3 : (ByteArray.mk a.toArray)[i.toNat]? = some c := by
      rw [getElem?_pos (ByteArray.mk a.toArray) i.toNat (by rw [str_size]; exact hlt)]
      rw [List.getElem?_eq_getElem hlt] at hc
      simp only [Option.some.injEq] at hc
      rw [← hc]
      rfl
    simp [execOp, ho, h1, h2, Instr.index, asIntOf, run_underlying ht, h0, h3]
theorem ok_bytes {s t e : TypeId} {x : Operand} {a : List UInt8} (ho : o.op = .convert s t x) (hs : P.underlying s = some .string) (ht : P.underlying t = some (.slice e)) (he : P.underlying e = some (.int .u8)) (hx : VL E x (str a)) (hm : a.length ≤ maxLen) : OpOK P I o E (slice 1 (a.map fun c => [is (.int .u8 c.toNat)])) :=
  OpOK.val fun M w ac hev hI => by
    have h1 : ac.eval x = _ := hx.ev hev (by simp [ho, Op.operands])
    have hrun := Lib.run_convert_string_bytes (P := P) w s t e ⟨a.toArray⟩ hs ht he
    have hcap := grownCap_ge w a.length 0 e
    have hcm := grownCap_le_maxLen w a.length 0 e hm
    refine ⟨.slice (some ⟨w.heap.size, 0, none⟩) a.length (grownCap w a.length 0 e), Lib.bytesWorld w e ⟨a.toArray⟩, by simp [execOp, ho, h1, hrun]; exact ⟨rfl, rfl⟩, ?_, ?_⟩
    · have hbd : Bd M w := I.bd _ _ hI
      refine ⟨_, grownCap w a.length 0 e, by rw [List.length_map], by rw [List.length_map]; exact hcap, hcm, (fun h => by cases h), fun i row hr => ?_⟩
      rw [List.getElem?_map] at hr
      cases hc : a[i]? with
      | none => rw [hc] at hr; cases hr
      | some c =>
        rw [hc] at hr
        simp only [Option.map_some, Option.some.injEq] at hr
        subst hr
        have hil : i < a.length := by rcases Nat.lt_or_ge i a.length with h | h; exact h; rw [List.getElem?_eq_none h] at hc; cases hc
        refine ⟨rfl, _, rfl, fun j p hp => ?_⟩
        have hj : j = 0 := by
          rcases Nat.eq_zero_or_pos j with h | h
          · exact h
          · rw [List.getElem?_eq_none (by simp; omega)] at hp; cases hp
        subst hj
        simp only [List.getElem?_cons_zero, Option.some.injEq] at hp
        subst hp
        refine ⟨.int .u8 c.toNat, ?_, fun hmm => ?_, rfl, rfl⟩
        · rw [show Addr.add ⟨w.heap.size, 0, none⟩ (i * 1 + 0) = ⟨w.heap.size, i, none⟩ by unfold Addr.add; split <;> simp_all]
          rw [Lib.bytesWorld_cell w e ⟨a.toArray⟩ i (by rw [str_size]; exact hil)]
          have : ([] ++ a).getD i 0 = c := by simp [hc]
          simp [hc]
        · have := hbd _ _ hmm; simp at this
    · exact Lib.bytesWorld_below w e ⟨a.toArray⟩

theorem sidx_at {a : List UInt8} {k : Nat} {c : UInt8} (h : a[k]? = some c) : a[((k : Nat) : Int).toNat]? = some c := h

theorem ok_index {t e : TypeId} {x y : Operand} {k : IntKind} {i : Int} {len sz : Nat} {ps qs : List Pr} (ho : o.op = .index t x y) (ht : P.underlying t = some (.array len e)) (he : aggB P e = true) (hz : sizeB P e = some sz) (hx : VL E x (agg ps)) (hy : VL E y (is (.int k i))) (h0 : 0 ≤ i) (hl : i < len)
    (hq : (ps.drop (i.toNat * sz)).take sz = qs) : OpOK P I o E (agg qs) :=
  OpOK.same fun M w ac hev _ => by
    obtain ⟨cs, h1, ho1, h2⟩ := hx.ev hev (by simp [ho, Op.operands])
    have h3 : ac.eval y = _ := hy.ev hev (by simp [ho, Op.operands])
    refine ⟨.agg (cs.toArray.extract (i.toNat * sz) (i.toNat * sz + sz)), ?_, (cs.drop (i.toNat * sz)).take sz, ?_, fun c hc => ho1 c (List.mem_of_mem_drop (List.mem_of_mem_take hc)), by rw [← hq]; exact (h2.drop _).take _⟩
    · simp [execOp, ho, h1, h3, Instr.index, asIntOf, run_underlying ht, h0, hl, run_size hz, part, run_isAgg_agg he]
    · congr 1
      apply Array.toList_inj.1
      simp [List.extract, Nat.add_sub_cancel_left]

theorem agg_is {M : Av} {w : World} {v : Value} {xs : List Value} (h : (agg (xs.map is)).h M w v) : v = .agg xs.toArray := by
  obtain ⟨cs, rfl, ho, h2⟩ := h
  congr 1
  have : cs = xs := by
    clear ho
    induction xs generalizing cs with
    | nil => cases cs with
      | nil => rfl
      | cons c cs => exact h2.elim
    | cons x xs ih => cases cs with
      | nil => exact h2.elim
      | cons c cs => rw [ih cs h2.2, show c = x from h2.1]
  rw [this]
theorem ok_eqagg {t u : TypeId} {x y : Operand} {r : Bool} (xs ys : List Value) (ho : o.op = .binOp .eql t x y u) (hx : VL E x (agg (xs.map is))) (hy : VL E y (agg (ys.map is))) (hg : P.eqGuardType P.depth t = false) (hr : ∀ w, (Op.equal t (.agg xs.toArray) (.agg ys.toArray)).run P w = .ok r w) : OpOK P I o E (bool r) :=
  OpOK.same fun M w ac he _ => by
    have h1 := agg_is (hx.ev he (by simp [ho, Op.operands]))
    have h2 := agg_is (hy.ev he (by simp [ho, Op.operands]))
    exact ⟨_, by simp [execOp, ho, h1, h2, eqGuard, hg, binOp, hr w], rfl⟩
theorem ok_neagg {t u : TypeId} {x y : Operand} {r : Bool} (xs ys : List Value) (ho : o.op = .binOp .neq t x y u) (hx : VL E x (agg (xs.map is))) (hy : VL E y (agg (ys.map is))) (hg : P.eqGuardType P.depth t = false) (hr : ∀ w, (Op.equal t (.agg xs.toArray) (.agg ys.toArray)).run P w = .ok r w) : OpOK P I o E (bool (!r)) :=
  OpOK.same fun M w ac he _ => by
    have h1 := agg_is (hx.ev he (by simp [ho, Op.operands]))
    have h2 := agg_is (hy.ev he (by simp [ho, Op.operands]))
    exact ⟨_, by simp [execOp, ho, h1, h2, eqGuard, hg, binOp, hr w], rfl⟩

theorem eqS {P : Program} {w : World} {d : Nat} {t : TypeId} {fs : Array Field} {xs ys : Array Value} {r : Bool} (ht : P.underlying t = some (.struct fs)) (hp : P.stoodInHeld t = false) (h : (Op.eqFields d xs ys fs.toList).run P w = .ok r w) : (Op.equalIn (d + 1) t (.agg xs) (.agg ys)).run P w = .ok r w := by
  have hf : P.fieldsOf t = fs := by unfold Program.fieldsOf; rw [ht]
  rw [run_equalIn_struct w d t xs ys (by rw [hf]; exact ht) hp, hf]; exact h
theorem eqF_nil {P : Program} {w : World} {d : Nat} {xs ys : Array Value} : (Op.eqFields d xs ys []).run P w = .ok true w := by simp [Op.eqFields]
theorem eqF_cons {P : Program} {w : World} {d : Nat} {xs ys : Array Value} {f : Field} {fs : List Field} {vx vy : Value} {r q : Bool} (hn : f.name ≠ "_") (ha : (part f.type xs f.offset).run P w = .ok vx w) (hb : (part f.type ys f.offset).run P w = .ok vy w)
    (he : (Op.equalIn d f.type vx vy).run P w = .ok r w) (hr : (Op.eqFields d xs ys fs).run P w = .ok q w) : (Op.eqFields d xs ys (f :: fs)).run P w = .ok (r && q) w := by
  simp only [Op.eqFields, hn, ne_eq, not_false_eq_true, if_true, Sem.run_bind, ha, hb, he, Result.andThen_ok]
  cases r
  · simp
  · simpa using hr
theorem part_leaf {P : Program} {w : World} {t : TypeId} {cs : Array Value} {off : Nat} {v : Value} (h1 : oneB P t = true) (hv : cs[off]? = some v) : (part t cs off).run P w = .ok v w := by
  simp [part, run_isAgg_one h1, hv]
theorem part_agg {P : Program} {w : World} {t : TypeId} {cs : Array Value} {off m : Nat} {vs : Array Value} (h1 : aggB P t = true) (hz : sizeB P t = some m) (hv : cs.extract off (off + m) = vs) : (part t cs off).run P w = .ok (.agg vs) w := by
  simp [part, run_isAgg_agg h1, run_size hz, hv]
theorem eq_intL {P : Program} {w : World} {d : Nat} {t : TypeId} {k : IntKind} {a b : Int} (h : P.underlying t = some (.int k)) : (Op.equalIn (d + 1) t (.int k a) (.int k b)).run P w = .ok (decide (a = b)) w := by
  rw [run_equalIn_int w d t k k a b h]; rfl
theorem eq_strL {P : Program} {w : World} {d : Nat} {t : TypeId} {a b : List UInt8} (h : P.underlying t = some .string) : (Op.equalIn (d + 1) t (.string ⟨a.toArray⟩) (.string ⟨b.toArray⟩)).run P w = .ok (decide (a = b)) w := by
  rw [run_equalIn_string w d t _ _ h, str_toList, str_toList]
  congr 1
  rw [Bool.eq_iff_iff]; simp
end
end Cp
namespace Go.Proofs.YtgdlhajfajddiaaGreat
open Go Go.RowKit Cp
theorem eqv24 {d : Nat} {w : World} {x0 y0 : Int} {x1 y1 : Int} : (Op.equalIn (d + 2) 24 (.agg #[.int .i64 x0, .int .i64 x1]) (.agg #[.int .i64 y0, .int .i64 y1])).run Tryz.prog w = .ok (decide (x0 = y0 ∧ x1 = y1)) w := by
  have h := eqS (w := w) (d := d + 1) (xs := #[.int .i64 x0, .int .i64 x1]) (ys := #[.int .i64 y0, .int .i64 y1]) Tryz.underlying24 (by kernel_rfl) (eqF_cons (by decide) (part_leaf one3 rfl) (part_leaf one3 rfl) (eq_intL (d := d + 0) Tryz.underlying3) (eqF_cons (by decide) (part_leaf one3 rfl) (part_leaf one3 rfl) (eq_intL (d := d + 0) Tryz.underlying3) (eqF_nil)))
  refine h.trans (congrArg (fun b => Result.ok b w) ?_)
  rw [Bool.eq_iff_iff]; simp [and_assoc]
theorem ok_eq24 {E : Env} {I : Asn} {o : Oper} {u : TypeId} {x y : Operand} {x0 y0 : Int} {x1 y1 : Int} (ho : o.op = .binOp .eql 24 x y u) (hx : VL E x (agg [is (.int .i64 x0), is (.int .i64 x1)])) (hy : VL E y (agg [is (.int .i64 y0), is (.int .i64 y1)])) : OpOK Tryz.prog I o E (bool (decide (x0 = y0 ∧ x1 = y1))) :=
  ok_eqagg [.int .i64 x0, .int .i64 x1] [.int .i64 y0, .int .i64 y1] ho hx hy (by kernel_rfl) (fun w => by rw [show Op.equal 24 _ _ = Op.equalIn (9998 + 2) 24 _ _ from rfl]; exact eqv24)
theorem eqv26 {d : Nat} {w : World} {x0 y0 : Int} {x1 y1 : List UInt8} {x2 y2 : Int} {x3 y3 : Int} {x4 y4 : Int} {x5 y5 : Int} {x6 y6 : List UInt8} {x7 y7 : Int} {x8 y8 : Int} {x9 y9 : Int} {x10 y10 : List UInt8} : (Op.equalIn (d + 3) 26 (.agg #[.int .i64 x0, .string ⟨x1.toArray⟩, .int .i64 x2, .int .i64 x3, .int .i64 x4, .int .i64 x5, .string ⟨x6.toArray⟩, .int .i64 x7, .int .i64 x8, .int .i64 x9, .string ⟨x10.toArray⟩]) (.agg #[.int .i64 y0, .string ⟨y1.toArray⟩, .int .i64 y2, .int .i64 y3, .int .i64 y4, .int .i64 y5, .string ⟨y6.toArray⟩, .int .i64 y7, .int .i64 y8, .int .i64 y9, .string ⟨y10.toArray⟩])).run Tryz.prog w = .ok (decide (x0 = y0 ∧ x1 = y1 ∧ x2 = y2 ∧ x3 = y3 ∧ x4 = y4 ∧ x5 = y5 ∧ x6 = y6 ∧ x7 = y7 ∧ x8 = y8 ∧ x9 = y9 ∧ x10 = y10)) w := by
  have h := eqS (w := w) (d := d + 2) (xs := #[.int .i64 x0, .string ⟨x1.toArray⟩, .int .i64 x2, .int .i64 x3, .int .i64 x4, .int .i64 x5, .string ⟨x6.toArray⟩, .int .i64 x7, .int .i64 x8, .int .i64 x9, .string ⟨x10.toArray⟩]) (ys := #[.int .i64 y0, .string ⟨y1.toArray⟩, .int .i64 y2, .int .i64 y3, .int .i64 y4, .int .i64 y5, .string ⟨y6.toArray⟩, .int .i64 y7, .int .i64 y8, .int .i64 y9, .string ⟨y10.toArray⟩]) Tryz.underlying26 (by kernel_rfl) (eqF_cons (by decide) (part_leaf one3 rfl) (part_leaf one3 rfl) (eq_intL (d := d + 1) Tryz.underlying3) (eqF_cons (by decide) (part_leaf one9 rfl) (part_leaf one9 rfl) (eq_strL (d := d + 1) Tryz.underlying9) (eqF_cons (by decide) (part_leaf one3 rfl) (part_leaf one3 rfl) (eq_intL (d := d + 1) Tryz.underlying3) (eqF_cons (by decide) (part_leaf one3 rfl) (part_leaf one3 rfl) (eq_intL (d := d + 1) Tryz.underlying3) (eqF_cons (by decide) (part_leaf one3 rfl) (part_leaf one3 rfl) (eq_intL (d := d + 1) Tryz.underlying3) (eqF_cons (by decide) (part_leaf one3 rfl) (part_leaf one3 rfl) (eq_intL (d := d + 1) Tryz.underlying3) (eqF_cons (by decide) (part_leaf one9 rfl) (part_leaf one9 rfl) (eq_strL (d := d + 1) Tryz.underlying9) (eqF_cons (by decide) (part_agg agg24 sz24 rfl) (part_agg agg24 sz24 rfl) (eqv24 (d := d + 0) (w := w)) (eqF_cons (by decide) (part_leaf one3 rfl) (part_leaf one3 rfl) (eq_intL (d := d + 1) Tryz.underlying3) (eqF_cons (by decide) (part_leaf one9 rfl) (part_leaf one9 rfl) (eq_strL (d := d + 1) Tryz.underlying9) (eqF_nil)))))))))))
  refine h.trans (congrArg (fun b => Result.ok b w) ?_)
  rw [Bool.eq_iff_iff]; simp [and_assoc]
theorem ok_eq26 {E : Env} {I : Asn} {o : Oper} {u : TypeId} {x y : Operand} {x0 y0 : Int} {x1 y1 : List UInt8} {x2 y2 : Int} {x3 y3 : Int} {x4 y4 : Int} {x5 y5 : Int} {x6 y6 : List UInt8} {x7 y7 : Int} {x8 y8 : Int} {x9 y9 : Int} {x10 y10 : List UInt8} (ho : o.op = .binOp .eql 26 x y u) (hx : VL E x (agg [is (.int .i64 x0), str x1, is (.int .i64 x2), is (.int .i64 x3), is (.int .i64 x4), is (.int .i64 x5), str x6, is (.int .i64 x7), is (.int .i64 x8), is (.int .i64 x9), str x10])) (hy : VL E y (agg [is (.int .i64 y0), str y1, is (.int .i64 y2), is (.int .i64 y3), is (.int .i64 y4), is (.int .i64 y5), str y6, is (.int .i64 y7), is (.int .i64 y8), is (.int .i64 y9), str y10])) : OpOK Tryz.prog I o E (bool (decide (x0 = y0 ∧ x1 = y1 ∧ x2 = y2 ∧ x3 = y3 ∧ x4 = y4 ∧ x5 = y5 ∧ x6 = y6 ∧ x7 = y7 ∧ x8 = y8 ∧ x9 = y9 ∧ x10 = y10))) :=
  ok_eqagg [.int .i64 x0, .string ⟨x1.toArray⟩, .int .i64 x2, .int .i64 x3, .int .i64 x4, .int .i64 x5, .string ⟨x6.toArray⟩, .int .i64 x7, .int .i64 x8, .int .i64 x9, .string ⟨x10.toArray⟩] [.int .i64 y0, .string ⟨y1.toArray⟩, .int .i64 y2, .int .i64 y3, .int .i64 y4, .int .i64 y5, .string ⟨y6.toArray⟩, .int .i64 y7, .int .i64 y8, .int .i64 y9, .string ⟨y10.toArray⟩] ho hx hy (by kernel_rfl) (fun w => by rw [show Op.equal 26 _ _ = Op.equalIn (9997 + 3) 26 _ _ from rfl]; exact eqv26)
theorem ok_ne26 {E : Env} {I : Asn} {o : Oper} {u : TypeId} {x y : Operand} {x0 y0 : Int} {x1 y1 : List UInt8} {x2 y2 : Int} {x3 y3 : Int} {x4 y4 : Int} {x5 y5 : Int} {x6 y6 : List UInt8} {x7 y7 : Int} {x8 y8 : Int} {x9 y9 : Int} {x10 y10 : List UInt8} (ho : o.op = .binOp .neq 26 x y u) (hx : VL E x (agg [is (.int .i64 x0), str x1, is (.int .i64 x2), is (.int .i64 x3), is (.int .i64 x4), is (.int .i64 x5), str x6, is (.int .i64 x7), is (.int .i64 x8), is (.int .i64 x9), str x10])) (hy : VL E y (agg [is (.int .i64 y0), str y1, is (.int .i64 y2), is (.int .i64 y3), is (.int .i64 y4), is (.int .i64 y5), str y6, is (.int .i64 y7), is (.int .i64 y8), is (.int .i64 y9), str y10])) : OpOK Tryz.prog I o E (bool (!decide (x0 = y0 ∧ x1 = y1 ∧ x2 = y2 ∧ x3 = y3 ∧ x4 = y4 ∧ x5 = y5 ∧ x6 = y6 ∧ x7 = y7 ∧ x8 = y8 ∧ x9 = y9 ∧ x10 = y10))) :=
  ok_neagg [.int .i64 x0, .string ⟨x1.toArray⟩, .int .i64 x2, .int .i64 x3, .int .i64 x4, .int .i64 x5, .string ⟨x6.toArray⟩, .int .i64 x7, .int .i64 x8, .int .i64 x9, .string ⟨x10.toArray⟩] [.int .i64 y0, .string ⟨y1.toArray⟩, .int .i64 y2, .int .i64 y3, .int .i64 y4, .int .i64 y5, .string ⟨y6.toArray⟩, .int .i64 y7, .int .i64 y8, .int .i64 y9, .string ⟨y10.toArray⟩] ho hx hy (by kernel_rfl) (fun w => by rw [show Op.equal 26 _ _ = Op.equalIn (9997 + 3) 26 _ _ from rfl]; exact eqv26)
end Go.Proofs.YtgdlhajfajddiaaGreat
namespace Go.Proofs.YtgdlhajfajddiaaGreat
open Go Go.RowKit Cp

def cmpI (a b : Int) : Int := if a < b then -1 else if b < a then 1 else 0
theorem cmpI_zero {a b : Int} : cmpI a b = 0 ↔ a = b := by unfold cmpI; by_cases h1 : a < b <;> by_cases h2 : b < a <;> simp [h1, h2] <;> omega
def orF (l : List Int) : Int := (l.find? fun x => x != 0).getD 0
theorem orF_hit {l : List Int} {k : Nat} {x : Int} (hx : l[k]? = some x) (h0 : ¬ x = 0) (h : ∀ j y, j < k → l[j]? = some y → (y != 0) = false) : x = orF l := by
  unfold orF
  have : l.find? (fun x => x != 0) = some x := by
    rw [List.find?_eq_some_iff_getElem]
    have hk : k < l.length := by rcases Nat.lt_or_ge k l.length with h | h; exact h; rw [List.getElem?_eq_none h] at hx; cases hx
    rw [List.getElem?_eq_getElem hk] at hx
    simp only [Option.some.injEq] at hx
    refine ⟨by simpa using h0, k, hk, hx, fun j hj => ?_⟩
    have := h j _ hj (List.getElem?_eq_getElem (by omega))
    simpa using this
  rw [this]; rfl
theorem orF_none {l : List Int} (h : ∀ j y, j < l.length → l[j]? = some y → (y != 0) = false) : 0 = orF l := by
  unfold orF
  have : l.find? (fun x => x != 0) = none := by
    rw [List.find?_eq_none]
    intro x hx
    obtain ⟨j, hj, rfl⟩ := List.mem_iff_getElem.1 hx
    have := h j _ hj (List.getElem?_eq_getElem hj)
    simpa using this
  rw [this]; rfl
def okc (c : UInt8) : Bool := decide (33 ≤ c.toNat ∧ c.toNat ≤ 126)
def named (s : List UInt8) : Bool := s.all okc && decide (1 ≤ s.length ∧ s.length ≤ 32)
theorem all_hit {β : Type} {p : β → Bool} {l : List β} {k : Nat} {x : β} (hx : l[k]? = some x) (hp : p x = false) : l.all p = false := by
  rw [Bool.eq_false_iff]; intro h; rw [List.all_eq_true] at h; rw [h x (List.mem_of_getElem? hx)] at hp; cases hp
theorem all_end {β : Type} {p : β → Bool} {l : List β} (h : ∀ j y, j < l.length → l[j]? = some y → (!p y) = false) : l.all p = true := by
  rw [List.all_eq_true]
  intro y hy
  obtain ⟨j, hj⟩ := List.mem_iff_getElem?.1 hy
  have := h j y (by rcases Nat.lt_or_ge j l.length with h | h; exact h; rw [List.getElem?_eq_none h] at hj; cases hj) hj
  simpa using this

set_option maxRecDepth 20000 in
theorem w_isNaNI {n : Int}  : Fun Tryz.prog 121 [int n] (bool false) := by
 refine Fun.of Tryz.func121 rfl rfl (by exact Nat.le_of_ble_eq_true rfl) fun M0 w0 => ?_
 refine Tr.seq (Tr.reg0 (cm rfl (Ch.nil (Fin.go (Tr.seq (Tr.reg0 (cm rfl (cm rfl (co rfl (ki rfl rfl rfl rfl) (cm rfl (Ch.nil (Fin.go (Tr.ret (Fin.ret1 rfl (OutW.bse _ _) rfl ?_))))))))))))))
 · exact bool_eq (by simp)
set_option maxRecDepth 20000 in
theorem w_cmpI {a b : Int}  : Fun Tryz.prog 72 [int a, int b] (int (cmpI a b)) := by
 refine Fun.of Tryz.func72 rfl rfl (by exact Nat.le_of_ble_eq_true rfl) fun M0 w0 => ?_
 refine Tr.seq (Tr.reg0 (cm rfl (Ch.nil (Fin.go (Tr.seq (Tr.reg0 (cm rfl (co rfl (ok_call rfl (w_isNaNI) ⟨ke rfl, trivial⟩) (cm rfl (Ch.nil (Fin.go (Tr.seq (Tr.reg0 ?_)))))))))))))
 refine cm rfl (co rfl (ok_call rfl (w_isNaNI) ⟨ke rfl, trivial⟩) (cm rfl (Ch.nil (Fin.go (Tr.seq (Tr.seq (Tr.reg0 (cm rfl (Ch.nil (Fin.go ?_))))))))))
 refine Tr.cn rfl ?_ ?_ <;> intro h1 q1
 exact absurd h1 (by decide)
 refine Tr.skip (Fin.go (Tr.seq (Tr.seq (Tr.reg0 (cm rfl (Ch.nil (Fin.go ?_)))))))
 refine Tr.cn rfl ?_ ?_ <;> intro h2 q2
 exact absurd h2 (by decide)
 refine Tr.skip (Fin.go (Tr.seq (Tr.seq (Tr.reg0 (cm rfl (cm rfl (co rfl (ki rfl rfl rfl rfl) (Ch.nil (Fin.go ?_)))))))))
 refine Tr.cn rfl ?_ ?_ <;> intro h3 q3
 refine Tr.seq (Tr.reg0 (cm rfl (Ch.nil (Fin.go (Tr.ret (Fin.then_ret (Fin.ret1 rfl (OutW.bse _ _) rfl ?_)))))))
 · refine int_eq ?_; unfold cmpI; (repeat split) <;> omega
 refine Tr.skip (Fin.go (Tr.seq (Tr.seq (Tr.reg0 (cm rfl (cm rfl (co rfl (ki rfl rfl rfl rfl) (Ch.nil (Fin.go (wk1 19 rfl ?_))))))))))
 refine Tr.cn rfl ?_ ?_ <;> intro h4 q4
 refine Tr.seq (Tr.reg0 (cm rfl (Ch.nil (Fin.go (Tr.ret (Fin.then_ret (Fin.ret1 rfl (OutW.bse _ _) rfl ?_)))))))
 · refine int_eq ?_; unfold cmpI; (repeat split) <;> omega
 refine Tr.skip (Fin.go (Tr.seq (Tr.reg0 (cm rfl (Ch.nil (Fin.go (Tr.ret (Fin.ret1 rfl (OutW.bse _ _) rfl ?_))))))))
 · refine int_eq ?_; unfold cmpI; (repeat split) <;> omega
set_option maxRecDepth 20000 in
theorem w_orI {l : List Int}  : Fun Tryz.prog 71 [ints l] (int (orF l)) := by
 refine Fun.of Tryz.func71 rfl rfl (by exact Nat.le_of_ble_eq_true rfl) fun M0 w0 => ?_
 refine Tr.lenm 0 rfl fun hlm_0 => (Tr.seq (Tr.reg0 (cm rfl (Ch.nil (Fin.go (Tr.seq (Tr.reg0 (cm rfl (Ch.nil (Fin.go (Tr.seq (Tr.seq (Tr.reg0 ?_)))))))))))))
 refine cm rfl (co rfl (ok_lenm rfl Tryz.underlying22 (vl rfl)) (cm rfl (Ch.nil (Fin.go (Tr.block (Tr.loopw [(3, _), (6, _), (7, _)] (kk3 rfl) (fun k : Nat => [(8, int ((k : Nat) : Int))]) (fun k : Nat => k ≤ (l).length ∧ (∀ j y, j < k → l[j]? = some y → (y != 0) = false)) (fun k : Nat => (l).length - k) 0 (⟨Nat.zero_le _, fun j y hj => absurd hj (by omega)⟩) ⟨ke rfl, trivial⟩ ?_))))))
 rintro k ⟨hle_k, hinv_k⟩
 refine Tr.seq (Tr.reg0 (co rfl (ki rfl rfl rfl rfl) (Ch.nil (Fin.go (Tr.seq ?_)))))
 refine Tr.cn rfl ?_ ?_ <;> intro h1 q1
 have hk_k : k < (l).length := lt_of_dec h1
 obtain ⟨x, hx_k⟩ := at_ hk_k
 refine Tr.skip (Fin.go (Tr.seq (Tr.block (Tr.seq (Tr.reg0 (co rfl (ok_indexAddr rfl Tryz.underlying22 sz3 (vl rfl) (vl rfl) (by omega) (by exact row_at (by assumption))) ?_))))))
 refine co rfl (kl1 rfl one3 rfl) (cm rfl (Ch.nil (Fin.go (Tr.seq (Tr.reg0 (cm rfl (cm rfl (co rfl (ki rfl rfl rfl rfl) (Ch.nil (Fin.go ?_))))))))))
 refine Tr.cn rfl ?_ ?_ <;> intro h2 q2
 refine Tr.seq (Tr.reg0 (cm rfl (cm rfl (Ch.nil (Fin.go (Tr.ret (Fin.block_ret (Fin.then_ret (Fin.then_ret (Fin.block_ret (Fin.then_ret (Fin.ret1 rfl (OutW.bse _ _) rfl ?_))))))))))))
 · exact int_eq (orF_hit hx_k (by assumption) hinv_k)
 refine Tr.skip (Fin.block (Fin.go (Tr.reg0 (cad rfl rfl rfl rfl (by omega) (cm rfl (Ch.nil (Fin.fam_same (k + 1) ⟨⟨hk_k, step_no (p := fun y => y != 0) hx_k (by simpa using by assumption) hinv_k⟩, by omega⟩ ⟨⟨_, rfl, int_succ k⟩, ke rfl, ke rfl, ke rfl, trivial⟩)))))))
 have he_k : k = (l).length := by have := ge_of_dec h1; omega
 subst he_k
 refine Tr.exit (Fin.then_exit (Fin.then_exit (Fin.block_here (Fin.go (Tr.seq (Tr.reg0 (cm rfl (cm rfl (Ch.nil (Fin.go (Tr.ret (Fin.ret1 rfl (OutW.bse _ _) rfl ?_))))))))))))
 · exact int_eq (orF_none hinv_k)
set_option maxRecDepth 20000 in
theorem w_cmpS0 {a b : List UInt8}  : Fun Tryz.prog 198 [str a, str b] (int (Lib.compareBytes a b)) := by
 refine Fun.of Tryz.func198 rfl rfl (by exact Nat.le_of_ble_eq_true rfl) fun M0 w0 => ?_
 refine Tr.seq (Tr.reg0 (cm rfl (Ch.nil (Fin.go (Tr.seq (Tr.reg0 (cm rfl (cm rfl (co rfl (ok_cmpstr rfl Tryz.func229 (by kernel_rfl) (by kernel_rfl) (by kernel_rfl) (by kernel_rfl) (vl rfl) (vl rfl)) (cm rfl (Ch.nil (Fin.go (Tr.ret (Fin.ret1 rfl (OutW.bse _ _) rfl ?_))))))))))))))
 · exact Pr.le_refl _
set_option maxRecDepth 20000 in
theorem w_cmpS {a b : List UInt8}  : Fun Tryz.prog 135 [str a, str b] (int (Lib.compareBytes a b)) := by
 refine Fun.of Tryz.func135 rfl rfl (by exact Nat.le_of_ble_eq_true rfl) fun M0 w0 => ?_
 refine Tr.seq (Tr.reg0 (cm rfl (Ch.nil (Fin.go (Tr.seq (Tr.reg0 (cm rfl (cm rfl (co rfl (ok_call rfl (w_cmpS0) ⟨ke rfl, ke rfl, trivial⟩) (cm rfl (Ch.nil (Fin.go (Tr.ret (Fin.ret1 rfl (OutW.bse _ _) rfl ?_))))))))))))))
 · exact Pr.le_refl _
set_option maxRecDepth 20000 in
theorem w_Named {s : List UInt8} (hs : s.length ≤ maxLen) : Fun Tryz.prog 124 [str s] (bool (named s)) := by
 refine Fun.of Tryz.func124 rfl rfl (by exact Nat.le_of_ble_eq_true rfl) fun M0 w0 => ?_
 refine Tr.seq (Tr.reg0 (cm rfl (Ch.nil (Fin.go (Tr.seq (Tr.seq (Tr.reg0 (cm rfl (co rfl (ok_bytes rfl Tryz.underlying9 Tryz.underlying194 Tryz.underlying5 (vl rfl) (by assumption)) (co rfl (ok_lenm rfl Tryz.underlying194 (vl rfl)) (cm rfl (Ch.nil (Fin.go (Tr.block ?_))))))))))))))
 refine Tr.lenm 6 rfl fun hl6 => (Tr.loopw [(0, _), (6, _), (7, _)] (kk3 rfl) (fun k : Nat => [(8, int ((k : Nat) : Int))]) (fun k : Nat => k ≤ (s).length ∧ (∀ j y, j < k → s[j]? = some y → (!okc y) = false)) (fun k : Nat => (s).length - k) 0 (⟨Nat.zero_le _, fun j y hj => absurd hj (by omega)⟩) ⟨ke rfl, trivial⟩ ?_)
 rintro k ⟨hle_k, hinv_k⟩
 refine Tr.seq (Tr.reg0 (co rfl (ki rfl rfl rfl rfl) (Ch.nil (Fin.go (Tr.seq ?_)))))
 refine Tr.cn rfl ?_ ?_ <;> intro h1 q1
 have hk_k : k < (s).length := lt_of_dec h1
 obtain ⟨c, hx_k⟩ := at_ hk_k
 refine Tr.skip (Fin.go (Tr.seq (Tr.block (Tr.seq (Tr.reg0 (co rfl (ok_indexAddr rfl Tryz.underlying194 sz5 (vl rfl) (vl rfl) (by omega) (by exact row_at (by assumption))) ?_))))))
 refine co rfl (kl1 rfl one5 rfl) (cm rfl (Ch.nil (Fin.go (Tr.seq (Tr.reg0 (cm rfl (co rfl (ki rfl rfl rfl rfl) (cm rfl ?_))))))))
 refine Ch.cs 14 rfl ?_ ?_ <;> intro h2 q2
 refine cnf h2 rfl (cnf h2 rfl (co rfl (kpt rfl rfl h2 rfl) (Ch.nil (Fin.go (wk5 0 6 7 8 17 rfl (Tr.cond rfl (fun _ => ?_) (fun h => nomatch h)))))))
 refine Tr.seq (Tr.reg0 (cm rfl (Ch.nil (Fin.go (Tr.ret (Fin.block_ret (Fin.then_ret (Fin.then_ret (Fin.block_ret (Fin.then_ret (Fin.ret1 rfl (OutW.bse _ _) rfl ?_)))))))))))
 · refine bool_eq ?_; unfold named; rw [all_hit (p := okc) hx_k (by simp [okc]; omega)]; rfl
 refine cym h2 rfl (cy h2 rfl (ki rfl rfl rfl rfl) (co rfl (kpf rfl rfl h2 rfl) (Ch.nil (Fin.go (wk5 0 6 7 8 17 rfl ?_)))))
 refine Tr.cn rfl ?_ ?_ <;> intro h3 q3
 refine Tr.seq (Tr.reg0 (cm rfl (Ch.nil (Fin.go (Tr.ret (Fin.block_ret (Fin.then_ret (Fin.then_ret (Fin.block_ret (Fin.then_ret (Fin.ret1 rfl (OutW.bse _ _) rfl ?_)))))))))))
 · refine bool_eq ?_; unfold named; rw [all_hit (p := okc) hx_k (by simp [okc]; omega)]; rfl
 refine Tr.skip (Fin.block (Fin.go (Tr.reg0 (cad rfl rfl rfl rfl (by omega) (cm rfl (Ch.nil ?_))))))
 exact Fin.fam_same (k + 1) ⟨⟨hk_k, step_no (p := fun c => !okc c) hx_k (by simp [okc]; omega) hinv_k⟩, by omega⟩ ⟨⟨_, rfl, int_succ k⟩, ke rfl, ke rfl, ke rfl, trivial⟩
 have he_k : k = (s).length := by have := ge_of_dec h1; omega
 subst he_k
 refine Tr.exit (Fin.then_exit (Fin.then_exit (Fin.block_here (Fin.go (Tr.seq (Tr.reg0 (cm rfl (co rfl (ok_lens rfl Tryz.underlying9 (vl rfl)) (co rfl (ki rfl rfl rfl rfl) (cm rfl ?_))))))))))
 refine Ch.cs 22 rfl ?_ ?_ <;> intro h4 q4
 refine cym h4 rfl (cy h4 rfl (ok_lens rfl Tryz.underlying9 (vl rfl)) (cy h4 rfl (ki rfl rfl rfl rfl) (co rfl (kpt rfl rfl h4 rfl) (cm rfl (Ch.nil (Fin.go (wk1 2 rfl (Tr.ret (Fin.ret1 rfl (OutW.bse _ _) rfl ?_)))))))))
 · refine bool_eq ?_; unfold named; rw [all_end hinv_k, Bool.true_and]; rw [decide_eq_decide]; omega
 refine cnt h4 rfl (cnt h4 rfl (cnt h4 rfl (co rfl (kpf rfl rfl h4 rfl) (cm rfl (Ch.nil (Fin.go (wk1 2 rfl (Tr.ret (Fin.ret1 rfl (OutW.bse _ _) rfl ?_)))))))))
 · refine bool_eq ?_; unfold named; rw [all_end hinv_k, Bool.true_and]; (symm; rw [decide_eq_false_iff_not]; omega)
set_option maxRecDepth 20000 in
theorem w_RName {s : List UInt8}  : Fun Tryz.prog 126 [str s] (bool (named s)) := by
 refine Fun.of Tryz.func126 rfl rfl (by exact Nat.le_of_ble_eq_true rfl) fun M0 w0 => ?_
 refine Tr.seq (Tr.reg0 (cm rfl (Ch.nil (Fin.go (Tr.seq (Tr.seq (Tr.reg0 (cm rfl (co rfl (ok_lens rfl Tryz.underlying9 (vl rfl)) (co rfl (ki rfl rfl rfl rfl) (cm rfl ?_)))))))))))
 refine Ch.cs 7 rfl ?_ ?_ <;> intro h1 q1
 refine cnf h1 rfl (cnf h1 rfl (cnf h1 rfl (co rfl (kpt rfl rfl h1 rfl) (Ch.nil (Fin.go (Tr.cond rfl (fun _ => ?_) (fun h => nomatch h)))))))
 refine Tr.seq (Tr.reg0 (cm rfl (Ch.nil (Fin.go (Tr.ret (Fin.then_ret (Fin.ret1 rfl (OutW.bse _ _) rfl ?_)))))))
 · refine bool_eq ?_; unfold named; rw [Bool.and_eq_false_iff.2 (.inr (by simp; omega))]
 refine cym h1 rfl (cy h1 rfl (ok_lens rfl Tryz.underlying9 (vl rfl)) (cy h1 rfl (ki rfl rfl rfl rfl) (co rfl (kpf rfl rfl h1 rfl) (Ch.nil (Fin.go ?_)))))
 refine Tr.cn rfl ?_ ?_ <;> intro h2 q2
 refine Tr.seq (Tr.reg0 (cm rfl (Ch.nil (Fin.go (Tr.ret (Fin.then_ret (Fin.ret1 rfl (OutW.bse _ _) rfl ?_)))))))
 · refine bool_eq ?_; unfold named; rw [Bool.and_eq_false_iff.2 (.inr (by simp; omega))]
 refine Tr.skip (Fin.go (Tr.seq (Tr.seq (Tr.reg0 (cm rfl (Ch.nil (Fin.go (Tr.block (Tr.loopw [(0, _)] ⟨ke rfl, trivial⟩ (fun k : Nat => [(3, int ((k : Nat) : Int))]) (fun k : Nat => k ≤ (s).length ∧ (∀ j y, j < k → s[j]? = some y → (!okc y) = false)) (fun k : Nat => (s).length - k) 0 (⟨Nat.zero_le _, fun j y hj => absurd hj (by omega)⟩) ⟨ke rfl, trivial⟩ ?_)))))))))
 rintro k ⟨hle_k, hinv_k⟩
 refine Tr.seq (Tr.seq (Tr.reg0 (cm rfl (cm rfl (co rfl (ok_lens rfl Tryz.underlying9 (vl rfl)) (co rfl (ki rfl rfl rfl rfl) (Ch.nil (Fin.go ?_))))))))
 refine Tr.cn rfl ?_ ?_ <;> intro h3 q3
 have hk_k : k < (s).length := lt_of_dec h3
 obtain ⟨c, hx_k⟩ := at_ hk_k
 refine Tr.skip (Fin.go (Tr.seq (Tr.block (Tr.seq (Tr.reg0 (cm rfl (cm rfl (co rfl (ok_sidx rfl Tryz.underlying9 (vl rfl) (vl rfl) (by omega) (sidx_at (by assumption))) (co rfl (ki rfl rfl rfl rfl) (cm rfl ?_))))))))))
 refine Ch.cs 22 rfl ?_ ?_ <;> intro h4 q4
 iterate 4 refine cnf h4 rfl ?_
 refine co rfl (kpt rfl rfl h4 rfl) (Ch.nil (Fin.go (wk3 0 3 27 rfl (Tr.cond rfl (fun _ => ?_) (fun h => nomatch h)))))
 refine Tr.seq (Tr.reg0 (cm rfl (Ch.nil (Fin.go (Tr.ret (Fin.block_ret (Fin.then_ret (Fin.then_ret (Fin.block_ret (Fin.then_ret (Fin.ret1 rfl (OutW.bse _ _) rfl ?_)))))))))))
 · refine bool_eq ?_; unfold named; rw [all_hit (p := okc) hx_k (by simp [okc]; omega)]; rfl
 refine cym h4 rfl (cym h4 rfl (cy h4 rfl (ok_sidx rfl Tryz.underlying9 (vl rfl) (vl rfl) (by omega) (sidx_at (by assumption))) (cy h4 rfl (ki rfl rfl rfl rfl) (co rfl (kpf rfl rfl h4 rfl) (Ch.nil (Fin.go (wk3 0 3 27 rfl ?_)))))))
 refine Tr.cn rfl ?_ ?_ <;> intro h5 q5
 refine Tr.seq (Tr.reg0 (cm rfl (Ch.nil (Fin.go (Tr.ret (Fin.block_ret (Fin.then_ret (Fin.then_ret (Fin.block_ret (Fin.then_ret (Fin.ret1 rfl (OutW.bse _ _) rfl ?_)))))))))))
 · refine bool_eq ?_; unfold named; rw [all_hit (p := okc) hx_k (by simp [okc]; omega)]; rfl
 refine Tr.skip (Fin.block (Fin.go (Tr.reg0 (cm rfl (cad rfl rfl rfl rfl (by omega) (cm rfl (Ch.nil ?_)))))))
 exact Fin.fam_same (k + 1) ⟨⟨hk_k, step_no (p := fun c => !okc c) hx_k (by simp [okc]; omega) hinv_k⟩, by omega⟩ ⟨⟨_, rfl, int_succ k⟩, ke rfl, trivial⟩
 have he_k : k = (s).length := by have := ge_of_dec h3; omega
 subst he_k
 refine Tr.exit (Fin.then_exit (Fin.then_exit (Fin.block_here (Fin.go (Tr.seq (Tr.reg0 (cm rfl (Ch.nil (Fin.go (Tr.ret (Fin.ret1 rfl (OutW.bse _ _) rfl ?_)))))))))))
 · refine bool_eq ?_; unfold named; rw [all_end hinv_k, Bool.true_and]; symm; rw [decide_eq_true_eq]; omega
end Go.Proofs.YtgdlhajfajddiaaGreat
namespace Go.Proofs.YtgdlhajfajddiaaGreat
open Go Go.RowKit Cp

structure CatRow where
  name : List UInt8
  kind : Int
  way : Int
  sizes : List Int
  strengths : List Int
abbrev rowC (r : CatRow) : List Pr := [str r.name, int r.kind, int r.way, ints r.sizes, ints r.strengths]
def catTable : List CatRow := [⟨[], 0, 0, [], []⟩, ⟨[109, 100, 53], 1, 0, [], [18]⟩, ⟨[115, 104, 97, 49], 1, 0, [], [60]⟩, ⟨[115, 104, 97, 50, 53, 54], 1, 0, [], [128]⟩, ⟨[115, 104, 97, 51, 56, 52], 1, 0, [], [192]⟩, ⟨[114, 115, 97], 2, 1, [], []⟩, ⟨[100, 115, 97], 2, 1, [], []⟩, ⟨[101, 99, 100, 115, 97], 2, 2, [], []⟩, ⟨[101, 100, 50, 53, 53, 49, 57], 2, 0, [], [128]⟩, ⟨[109, 108, 100, 115, 97], 2, 3, [44, 65, 87], [128, 192, 256]⟩, ⟨[114, 115, 97, 107, 120], 3, 1, [], []⟩, ⟨[100, 104, 101], 3, 1, [], []⟩, ⟨[101, 99, 100, 104, 101], 3, 2, [], []⟩, ⟨[109, 108, 107, 101, 109], 3, 3, [512, 768, 1024], [128, 192, 256]⟩, ⟨[114, 99, 52], 4, 3, [40, 128], [40, 60]⟩, ⟨[100, 101, 115, 51], 4, 3, [112, 168], [80, 112]⟩, ⟨[97, 101, 115, 99, 98, 99], 4, 3, [128, 256], [128, 256]⟩, ⟨[97, 101, 115, 103, 99, 109], 4, 3, [128, 256], [128, 256]⟩, ⟨[99, 104, 97, 99, 104, 97], 4, 0, [], [256]⟩, ⟨[104, 109, 97, 99, 109, 100, 53], 5, 0, [], [64]⟩, ⟨[104, 109, 97, 99, 115, 104, 97, 49], 5, 0, [], [80]⟩, ⟨[104, 109, 97, 99, 115, 104, 97, 50, 53, 54], 5, 0, [], [128]⟩, ⟨[97, 101, 97, 100], 5, 0, [], [256]⟩]
def catZero : CatRow := ⟨[], 0, 0, [], []⟩
def catOf (alg : Int) : CatRow := if 1 ≤ alg ∧ alg ≤ 22 then (catTable[alg.toNat]?).getD catZero else catZero
theorem catTable_at {alg : Int} (h : 1 ≤ alg ∧ alg ≤ 22) : catTable[alg.toNat]? = some (catOf alg) := by
  have hl : alg.toNat < catTable.length := by show alg.toNat < 23; omega
  unfold catOf; rw [if_pos h, List.getElem?_eq_getElem hl]; rfl
theorem flat_row {β : Type} {f : β → List Pr} {sz : Nat} (hf : ∀ x, (f x).length = sz) : ∀ {l : List β} {i : Nat} {x : β}, l[i]? = some x → ((l.flatMap f).drop (i * sz)).take sz = f x
  | [], _, _, h => by simp at h
  | a :: l, 0, x, h => by
    simp at h; subst h
    rw [List.flatMap_cons, Nat.zero_mul, List.drop_zero, List.take_append_of_le_length (by rw [hf]; exact Nat.le_refl _), List.take_of_length_le (by rw [hf]; exact Nat.le_refl _)]
  | a :: l, i + 1, x, h => by
    rw [List.flatMap_cons, Nat.succ_mul, Nat.add_comm, ← List.drop_drop, List.drop_left' (hf a)]
    exact flat_row hf (by simpa using h)
theorem drop_cons {β : Type} {l : List β} {k : Nat} {x : β} (h : l[k]? = some x) : l.drop k = x :: l.drop (k + 1) := by
  have hk : k < l.length := by rcases Nat.lt_or_ge k l.length with h' | h'; exact h'; rw [List.getElem?_eq_none h'] at h; cases h
  rw [List.drop_eq_getElem_cons hk]
  rw [List.getElem?_eq_getElem hk] at h
  simp at h; rw [h]
def mods : List (Int × Int) := [(1024, 56), (2048, 80), (3072, 112), (7680, 128), (15360, 192)]
def modF : List (Int × Int) → Int → Int
  | [], _ => 256
  | p :: l, b => if b < p.1 then p.2 else modF l b
def modI (b : Int) : Int := modF mods b

set_option maxRecDepth 20000 in
theorem w_rows   : Fun Tryz.prog 254 [] (agg (catTable.flatMap rowC)) := by
 refine Fun.of Tryz.func254 rfl rfl (by exact Nat.le_of_ble_eq_true rfl) fun M0 w0 => ?_
 refine Tr.seq (Tr.regT ?_)
 refine TO.alloc rfl rfl (by decide) rfl z243 zo243 (fun b1 => ?_)
 refine TO.nil (Fin.go (Tr.seq (Tr.regT (tp rfl (ok_buildSlice (xs := [.const (.int .i64 (18))]) (rows := [[_]]) rfl rfl Tryz.underlying22 sz3 z3 rfl (by decide) ⟨⟨(by exact rfl), (VL.le (vl rfl) (one_cellsP _))⟩, trivial⟩ (by decide)) ?_))))
 refine tp rfl (ok_build (rows := [(0, [_]), (1, [_]), (2, [_]), (3, [_]), (4, [_])]) rfl bl218 zo218 ⟨⟨rfl, (VL.le (vl rfl) (one_cellsP _))⟩, ⟨⟨rfl, (VL.le (vl rfl) (one_cellsP _))⟩, ⟨⟨rfl, (VL.le (vl rfl) (one_cellsP _))⟩, ⟨⟨rfl, ⟨_, rfl, Pr.le_trans (nil_slice 1) (one_cellsP _)⟩⟩, ⟨⟨rfl, ⟨_, rfl, Pr.le_trans (full_le _ _) (one_cellsP _)⟩⟩, trivial⟩⟩⟩⟩⟩ rfl) (tp rfl (ok_buildSlice (xs := [.const (.int .i64 (60))]) (rows := [[_]]) rfl rfl Tryz.underlying22 sz3 z3 rfl (by decide) ⟨⟨(by exact rfl), (VL.le (vl rfl) (one_cellsP _))⟩, trivial⟩ (by decide)) ?_)
 refine tp rfl (ok_build (rows := [(0, [_]), (1, [_]), (2, [_]), (3, [_]), (4, [_])]) rfl bl218 zo218 ⟨⟨rfl, (VL.le (vl rfl) (one_cellsP _))⟩, ⟨⟨rfl, (VL.le (vl rfl) (one_cellsP _))⟩, ⟨⟨rfl, (VL.le (vl rfl) (one_cellsP _))⟩, ⟨⟨rfl, ⟨_, rfl, Pr.le_trans (nil_slice 1) (one_cellsP _)⟩⟩, ⟨⟨rfl, ⟨_, rfl, Pr.le_trans (full_le _ _) (one_cellsP _)⟩⟩, trivial⟩⟩⟩⟩⟩ rfl) (tp rfl (ok_buildSlice (xs := [.const (.int .i64 (128))]) (rows := [[_]]) rfl rfl Tryz.underlying22 sz3 z3 rfl (by decide) ⟨⟨(by exact rfl), (VL.le (vl rfl) (one_cellsP _))⟩, trivial⟩ (by decide)) ?_)
 refine tp rfl (ok_build (rows := [(0, [_]), (1, [_]), (2, [_]), (3, [_]), (4, [_])]) rfl bl218 zo218 ⟨⟨rfl, (VL.le (vl rfl) (one_cellsP _))⟩, ⟨⟨rfl, (VL.le (vl rfl) (one_cellsP _))⟩, ⟨⟨rfl, (VL.le (vl rfl) (one_cellsP _))⟩, ⟨⟨rfl, ⟨_, rfl, Pr.le_trans (nil_slice 1) (one_cellsP _)⟩⟩, ⟨⟨rfl, ⟨_, rfl, Pr.le_trans (full_le _ _) (one_cellsP _)⟩⟩, trivial⟩⟩⟩⟩⟩ rfl) (tp rfl (ok_buildSlice (xs := [.const (.int .i64 (192))]) (rows := [[_]]) rfl rfl Tryz.underlying22 sz3 z3 rfl (by decide) ⟨⟨(by exact rfl), (VL.le (vl rfl) (one_cellsP _))⟩, trivial⟩ (by decide)) ?_)
 refine tp rfl (ok_build (rows := [(0, [_]), (1, [_]), (2, [_]), (3, [_]), (4, [_])]) rfl bl218 zo218 ⟨⟨rfl, (VL.le (vl rfl) (one_cellsP _))⟩, ⟨⟨rfl, (VL.le (vl rfl) (one_cellsP _))⟩, ⟨⟨rfl, (VL.le (vl rfl) (one_cellsP _))⟩, ⟨⟨rfl, ⟨_, rfl, Pr.le_trans (nil_slice 1) (one_cellsP _)⟩⟩, ⟨⟨rfl, ⟨_, rfl, Pr.le_trans (full_le _ _) (one_cellsP _)⟩⟩, trivial⟩⟩⟩⟩⟩ rfl) (tp rfl (ok_build (rows := [(0, [_]), (1, [_]), (2, [_]), (3, [_]), (4, [_])]) rfl bl218 zo218 ⟨⟨rfl, (VL.le (vl rfl) (one_cellsP _))⟩, ⟨⟨rfl, (VL.le (vl rfl) (one_cellsP _))⟩, ⟨⟨rfl, (VL.le (vl rfl) (one_cellsP _))⟩, ⟨⟨rfl, ⟨_, rfl, Pr.le_trans (nil_slice 1) (one_cellsP _)⟩⟩, ⟨⟨rfl, ⟨_, rfl, Pr.le_trans (nil_slice 1) (one_cellsP _)⟩⟩, trivial⟩⟩⟩⟩⟩ rfl) (tp rfl (ok_build (rows := [(0, [_]), (1, [_]), (2, [_]), (3, [_]), (4, [_])]) rfl bl218 zo218 ⟨⟨rfl, (VL.le (vl rfl) (one_cellsP _))⟩, ⟨⟨rfl, (VL.le (vl rfl) (one_cellsP _))⟩, ⟨⟨rfl, (VL.le (vl rfl) (one_cellsP _))⟩, ⟨⟨rfl, ⟨_, rfl, Pr.le_trans (nil_slice 1) (one_cellsP _)⟩⟩, ⟨⟨rfl, ⟨_, rfl, Pr.le_trans (nil_slice 1) (one_cellsP _)⟩⟩, trivial⟩⟩⟩⟩⟩ rfl) (tp rfl (ok_build (rows := [(0, [_]), (1, [_]), (2, [_]), (3, [_]), (4, [_])]) rfl bl218 zo218 ⟨⟨rfl, (VL.le (vl rfl) (one_cellsP _))⟩, ⟨⟨rfl, (VL.le (vl rfl) (one_cellsP _))⟩, ⟨⟨rfl, (VL.le (vl rfl) (one_cellsP _))⟩, ⟨⟨rfl, ⟨_, rfl, Pr.le_trans (nil_slice 1) (one_cellsP _)⟩⟩, ⟨⟨rfl, ⟨_, rfl, Pr.le_trans (nil_slice 1) (one_cellsP _)⟩⟩, trivial⟩⟩⟩⟩⟩ rfl) (tp rfl (ok_buildSlice (xs := [.const (.int .i64 (128))]) (rows := [[_]]) rfl rfl Tryz.underlying22 sz3 z3 rfl (by decide) ⟨⟨(by exact rfl), (VL.le (vl rfl) (one_cellsP _))⟩, trivial⟩ (by decide)) ?_))))
 refine tp rfl (ok_build (rows := [(0, [_]), (1, [_]), (2, [_]), (3, [_]), (4, [_])]) rfl bl218 zo218 ⟨⟨rfl, (VL.le (vl rfl) (one_cellsP _))⟩, ⟨⟨rfl, (VL.le (vl rfl) (one_cellsP _))⟩, ⟨⟨rfl, (VL.le (vl rfl) (one_cellsP _))⟩, ⟨⟨rfl, ⟨_, rfl, Pr.le_trans (nil_slice 1) (one_cellsP _)⟩⟩, ⟨⟨rfl, ⟨_, rfl, Pr.le_trans (full_le _ _) (one_cellsP _)⟩⟩, trivial⟩⟩⟩⟩⟩ rfl) (tp rfl (ok_buildSlice (xs := [.const (.int .i64 (44)), .const (.int .i64 (65)), .const (.int .i64 (87))]) (rows := [[_], [_], [_]]) rfl rfl Tryz.underlying22 sz3 z3 rfl (by decide) ⟨⟨(by exact rfl), (VL.le (vl rfl) (one_cellsP _))⟩, ⟨⟨(by exact rfl), (VL.le (vl rfl) (one_cellsP _))⟩, ⟨⟨(by exact rfl), (VL.le (vl rfl) (one_cellsP _))⟩, trivial⟩⟩⟩ (by decide)) ?_)
 refine tp rfl (ok_buildSlice (xs := [.const (.int .i64 (128)), .const (.int .i64 (192)), .const (.int .i64 (256))]) (rows := [[_], [_], [_]]) rfl rfl Tryz.underlying22 sz3 z3 rfl (by decide) ⟨⟨(by exact rfl), (VL.le (vl rfl) (one_cellsP _))⟩, ⟨⟨(by exact rfl), (VL.le (vl rfl) (one_cellsP _))⟩, ⟨⟨(by exact rfl), (VL.le (vl rfl) (one_cellsP _))⟩, trivial⟩⟩⟩ (by decide)) ?_
 refine tp rfl (ok_build (rows := [(0, [_]), (1, [_]), (2, [_]), (3, [_]), (4, [_])]) rfl bl218 zo218 ⟨⟨rfl, (VL.le (vl rfl) (one_cellsP _))⟩, ⟨⟨rfl, (VL.le (vl rfl) (one_cellsP _))⟩, ⟨⟨rfl, (VL.le (vl rfl) (one_cellsP _))⟩, ⟨⟨rfl, ⟨_, rfl, Pr.le_trans (full_le _ _) (one_cellsP _)⟩⟩, ⟨⟨rfl, ⟨_, rfl, Pr.le_trans (full_le _ _) (one_cellsP _)⟩⟩, trivial⟩⟩⟩⟩⟩ rfl) (tp rfl (ok_build (rows := [(0, [_]), (1, [_]), (2, [_]), (3, [_]), (4, [_])]) rfl bl218 zo218 ⟨⟨rfl, (VL.le (vl rfl) (one_cellsP _))⟩, ⟨⟨rfl, (VL.le (vl rfl) (one_cellsP _))⟩, ⟨⟨rfl, (VL.le (vl rfl) (one_cellsP _))⟩, ⟨⟨rfl, ⟨_, rfl, Pr.le_trans (nil_slice 1) (one_cellsP _)⟩⟩, ⟨⟨rfl, ⟨_, rfl, Pr.le_trans (nil_slice 1) (one_cellsP _)⟩⟩, trivial⟩⟩⟩⟩⟩ rfl) (tp rfl (ok_build (rows := [(0, [_]), (1, [_]), (2, [_]), (3, [_]), (4, [_])]) rfl bl218 zo218 ⟨⟨rfl, (VL.le (vl rfl) (one_cellsP _))⟩, ⟨⟨rfl, (VL.le (vl rfl) (one_cellsP _))⟩, ⟨⟨rfl, (VL.le (vl rfl) (one_cellsP _))⟩, ⟨⟨rfl, ⟨_, rfl, Pr.le_trans (nil_slice 1) (one_cellsP _)⟩⟩, ⟨⟨rfl, ⟨_, rfl, Pr.le_trans (nil_slice 1) (one_cellsP _)⟩⟩, trivial⟩⟩⟩⟩⟩ rfl) (tp rfl (ok_build (rows := [(0, [_]), (1, [_]), (2, [_]), (3, [_]), (4, [_])]) rfl bl218 zo218 ⟨⟨rfl, (VL.le (vl rfl) (one_cellsP _))⟩, ⟨⟨rfl, (VL.le (vl rfl) (one_cellsP _))⟩, ⟨⟨rfl, (VL.le (vl rfl) (one_cellsP _))⟩, ⟨⟨rfl, ⟨_, rfl, Pr.le_trans (nil_slice 1) (one_cellsP _)⟩⟩, ⟨⟨rfl, ⟨_, rfl, Pr.le_trans (nil_slice 1) (one_cellsP _)⟩⟩, trivial⟩⟩⟩⟩⟩ rfl) (tp rfl (ok_buildSlice (xs := [.const (.int .i64 (512)), .const (.int .i64 (768)), .const (.int .i64 (1024))]) (rows := [[_], [_], [_]]) rfl rfl Tryz.underlying22 sz3 z3 rfl (by decide) ⟨⟨(by exact rfl), (VL.le (vl rfl) (one_cellsP _))⟩, ⟨⟨(by exact rfl), (VL.le (vl rfl) (one_cellsP _))⟩, ⟨⟨(by exact rfl), (VL.le (vl rfl) (one_cellsP _))⟩, trivial⟩⟩⟩ (by decide)) ?_))))
 refine tp rfl (ok_buildSlice (xs := [.const (.int .i64 (128)), .const (.int .i64 (192)), .const (.int .i64 (256))]) (rows := [[_], [_], [_]]) rfl rfl Tryz.underlying22 sz3 z3 rfl (by decide) ⟨⟨(by exact rfl), (VL.le (vl rfl) (one_cellsP _))⟩, ⟨⟨(by exact rfl), (VL.le (vl rfl) (one_cellsP _))⟩, ⟨⟨(by exact rfl), (VL.le (vl rfl) (one_cellsP _))⟩, trivial⟩⟩⟩ (by decide)) ?_
 refine tp rfl (ok_build (rows := [(0, [_]), (1, [_]), (2, [_]), (3, [_]), (4, [_])]) rfl bl218 zo218 ⟨⟨rfl, (VL.le (vl rfl) (one_cellsP _))⟩, ⟨⟨rfl, (VL.le (vl rfl) (one_cellsP _))⟩, ⟨⟨rfl, (VL.le (vl rfl) (one_cellsP _))⟩, ⟨⟨rfl, ⟨_, rfl, Pr.le_trans (full_le _ _) (one_cellsP _)⟩⟩, ⟨⟨rfl, ⟨_, rfl, Pr.le_trans (full_le _ _) (one_cellsP _)⟩⟩, trivial⟩⟩⟩⟩⟩ rfl) (tp rfl (ok_buildSlice (xs := [.const (.int .i64 (40)), .const (.int .i64 (128))]) (rows := [[_], [_]]) rfl rfl Tryz.underlying22 sz3 z3 rfl (by decide) ⟨⟨(by exact rfl), (VL.le (vl rfl) (one_cellsP _))⟩, ⟨⟨(by exact rfl), (VL.le (vl rfl) (one_cellsP _))⟩, trivial⟩⟩ (by decide)) ?_)
 refine tp rfl (ok_buildSlice (xs := [.const (.int .i64 (40)), .const (.int .i64 (60))]) (rows := [[_], [_]]) rfl rfl Tryz.underlying22 sz3 z3 rfl (by decide) ⟨⟨(by exact rfl), (VL.le (vl rfl) (one_cellsP _))⟩, ⟨⟨(by exact rfl), (VL.le (vl rfl) (one_cellsP _))⟩, trivial⟩⟩ (by decide)) ?_
 refine tp rfl (ok_build (rows := [(0, [_]), (1, [_]), (2, [_]), (3, [_]), (4, [_])]) rfl bl218 zo218 ⟨⟨rfl, (VL.le (vl rfl) (one_cellsP _))⟩, ⟨⟨rfl, (VL.le (vl rfl) (one_cellsP _))⟩, ⟨⟨rfl, (VL.le (vl rfl) (one_cellsP _))⟩, ⟨⟨rfl, ⟨_, rfl, Pr.le_trans (full_le _ _) (one_cellsP _)⟩⟩, ⟨⟨rfl, ⟨_, rfl, Pr.le_trans (full_le _ _) (one_cellsP _)⟩⟩, trivial⟩⟩⟩⟩⟩ rfl) (tp rfl (ok_buildSlice (xs := [.const (.int .i64 (112)), .const (.int .i64 (168))]) (rows := [[_], [_]]) rfl rfl Tryz.underlying22 sz3 z3 rfl (by decide) ⟨⟨(by exact rfl), (VL.le (vl rfl) (one_cellsP _))⟩, ⟨⟨(by exact rfl), (VL.le (vl rfl) (one_cellsP _))⟩, trivial⟩⟩ (by decide)) ?_)
 refine tp rfl (ok_buildSlice (xs := [.const (.int .i64 (80)), .const (.int .i64 (112))]) (rows := [[_], [_]]) rfl rfl Tryz.underlying22 sz3 z3 rfl (by decide) ⟨⟨(by exact rfl), (VL.le (vl rfl) (one_cellsP _))⟩, ⟨⟨(by exact rfl), (VL.le (vl rfl) (one_cellsP _))⟩, trivial⟩⟩ (by decide)) ?_
 refine tp rfl (ok_build (rows := [(0, [_]), (1, [_]), (2, [_]), (3, [_]), (4, [_])]) rfl bl218 zo218 ⟨⟨rfl, (VL.le (vl rfl) (one_cellsP _))⟩, ⟨⟨rfl, (VL.le (vl rfl) (one_cellsP _))⟩, ⟨⟨rfl, (VL.le (vl rfl) (one_cellsP _))⟩, ⟨⟨rfl, ⟨_, rfl, Pr.le_trans (full_le _ _) (one_cellsP _)⟩⟩, ⟨⟨rfl, ⟨_, rfl, Pr.le_trans (full_le _ _) (one_cellsP _)⟩⟩, trivial⟩⟩⟩⟩⟩ rfl) (tp rfl (ok_buildSlice (xs := [.const (.int .i64 (128)), .const (.int .i64 (256))]) (rows := [[_], [_]]) rfl rfl Tryz.underlying22 sz3 z3 rfl (by decide) ⟨⟨(by exact rfl), (VL.le (vl rfl) (one_cellsP _))⟩, ⟨⟨(by exact rfl), (VL.le (vl rfl) (one_cellsP _))⟩, trivial⟩⟩ (by decide)) ?_)
 refine tp rfl (ok_buildSlice (xs := [.const (.int .i64 (128)), .const (.int .i64 (256))]) (rows := [[_], [_]]) rfl rfl Tryz.underlying22 sz3 z3 rfl (by decide) ⟨⟨(by exact rfl), (VL.le (vl rfl) (one_cellsP _))⟩, ⟨⟨(by exact rfl), (VL.le (vl rfl) (one_cellsP _))⟩, trivial⟩⟩ (by decide)) ?_
 refine tp rfl (ok_build (rows := [(0, [_]), (1, [_]), (2, [_]), (3, [_]), (4, [_])]) rfl bl218 zo218 ⟨⟨rfl, (VL.le (vl rfl) (one_cellsP _))⟩, ⟨⟨rfl, (VL.le (vl rfl) (one_cellsP _))⟩, ⟨⟨rfl, (VL.le (vl rfl) (one_cellsP _))⟩, ⟨⟨rfl, ⟨_, rfl, Pr.le_trans (full_le _ _) (one_cellsP _)⟩⟩, ⟨⟨rfl, ⟨_, rfl, Pr.le_trans (full_le _ _) (one_cellsP _)⟩⟩, trivial⟩⟩⟩⟩⟩ rfl) (tp rfl (ok_buildSlice (xs := [.const (.int .i64 (128)), .const (.int .i64 (256))]) (rows := [[_], [_]]) rfl rfl Tryz.underlying22 sz3 z3 rfl (by decide) ⟨⟨(by exact rfl), (VL.le (vl rfl) (one_cellsP _))⟩, ⟨⟨(by exact rfl), (VL.le (vl rfl) (one_cellsP _))⟩, trivial⟩⟩ (by decide)) ?_)
 refine tp rfl (ok_buildSlice (xs := [.const (.int .i64 (128)), .const (.int .i64 (256))]) (rows := [[_], [_]]) rfl rfl Tryz.underlying22 sz3 z3 rfl (by decide) ⟨⟨(by exact rfl), (VL.le (vl rfl) (one_cellsP _))⟩, ⟨⟨(by exact rfl), (VL.le (vl rfl) (one_cellsP _))⟩, trivial⟩⟩ (by decide)) ?_
 refine tp rfl (ok_build (rows := [(0, [_]), (1, [_]), (2, [_]), (3, [_]), (4, [_])]) rfl bl218 zo218 ⟨⟨rfl, (VL.le (vl rfl) (one_cellsP _))⟩, ⟨⟨rfl, (VL.le (vl rfl) (one_cellsP _))⟩, ⟨⟨rfl, (VL.le (vl rfl) (one_cellsP _))⟩, ⟨⟨rfl, ⟨_, rfl, Pr.le_trans (full_le _ _) (one_cellsP _)⟩⟩, ⟨⟨rfl, ⟨_, rfl, Pr.le_trans (full_le _ _) (one_cellsP _)⟩⟩, trivial⟩⟩⟩⟩⟩ rfl) (tp rfl (ok_buildSlice (xs := [.const (.int .i64 (256))]) (rows := [[_]]) rfl rfl Tryz.underlying22 sz3 z3 rfl (by decide) ⟨⟨(by exact rfl), (VL.le (vl rfl) (one_cellsP _))⟩, trivial⟩ (by decide)) ?_)
 refine tp rfl (ok_build (rows := [(0, [_]), (1, [_]), (2, [_]), (3, [_]), (4, [_])]) rfl bl218 zo218 ⟨⟨rfl, (VL.le (vl rfl) (one_cellsP _))⟩, ⟨⟨rfl, (VL.le (vl rfl) (one_cellsP _))⟩, ⟨⟨rfl, (VL.le (vl rfl) (one_cellsP _))⟩, ⟨⟨rfl, ⟨_, rfl, Pr.le_trans (nil_slice 1) (one_cellsP _)⟩⟩, ⟨⟨rfl, ⟨_, rfl, Pr.le_trans (full_le _ _) (one_cellsP _)⟩⟩, trivial⟩⟩⟩⟩⟩ rfl) (tp rfl (ok_buildSlice (xs := [.const (.int .i64 (64))]) (rows := [[_]]) rfl rfl Tryz.underlying22 sz3 z3 rfl (by decide) ⟨⟨(by exact rfl), (VL.le (vl rfl) (one_cellsP _))⟩, trivial⟩ (by decide)) ?_)
 refine tp rfl (ok_build (rows := [(0, [_]), (1, [_]), (2, [_]), (3, [_]), (4, [_])]) rfl bl218 zo218 ⟨⟨rfl, (VL.le (vl rfl) (one_cellsP _))⟩, ⟨⟨rfl, (VL.le (vl rfl) (one_cellsP _))⟩, ⟨⟨rfl, (VL.le (vl rfl) (one_cellsP _))⟩, ⟨⟨rfl, ⟨_, rfl, Pr.le_trans (nil_slice 1) (one_cellsP _)⟩⟩, ⟨⟨rfl, ⟨_, rfl, Pr.le_trans (full_le _ _) (one_cellsP _)⟩⟩, trivial⟩⟩⟩⟩⟩ rfl) (tp rfl (ok_buildSlice (xs := [.const (.int .i64 (80))]) (rows := [[_]]) rfl rfl Tryz.underlying22 sz3 z3 rfl (by decide) ⟨⟨(by exact rfl), (VL.le (vl rfl) (one_cellsP _))⟩, trivial⟩ (by decide)) ?_)
 refine tp rfl (ok_build (rows := [(0, [_]), (1, [_]), (2, [_]), (3, [_]), (4, [_])]) rfl bl218 zo218 ⟨⟨rfl, (VL.le (vl rfl) (one_cellsP _))⟩, ⟨⟨rfl, (VL.le (vl rfl) (one_cellsP _))⟩, ⟨⟨rfl, (VL.le (vl rfl) (one_cellsP _))⟩, ⟨⟨rfl, ⟨_, rfl, Pr.le_trans (nil_slice 1) (one_cellsP _)⟩⟩, ⟨⟨rfl, ⟨_, rfl, Pr.le_trans (full_le _ _) (one_cellsP _)⟩⟩, trivial⟩⟩⟩⟩⟩ rfl) (tp rfl (ok_buildSlice (xs := [.const (.int .i64 (128))]) (rows := [[_]]) rfl rfl Tryz.underlying22 sz3 z3 rfl (by decide) ⟨⟨(by exact rfl), (VL.le (vl rfl) (one_cellsP _))⟩, trivial⟩ (by decide)) ?_)
 refine tp rfl (ok_build (rows := [(0, [_]), (1, [_]), (2, [_]), (3, [_]), (4, [_])]) rfl bl218 zo218 ⟨⟨rfl, (VL.le (vl rfl) (one_cellsP _))⟩, ⟨⟨rfl, (VL.le (vl rfl) (one_cellsP _))⟩, ⟨⟨rfl, (VL.le (vl rfl) (one_cellsP _))⟩, ⟨⟨rfl, ⟨_, rfl, Pr.le_trans (nil_slice 1) (one_cellsP _)⟩⟩, ⟨⟨rfl, ⟨_, rfl, Pr.le_trans (full_le _ _) (one_cellsP _)⟩⟩, trivial⟩⟩⟩⟩⟩ rfl) (tp rfl (ok_buildSlice (xs := [.const (.int .i64 (256))]) (rows := [[_]]) rfl rfl Tryz.underlying22 sz3 z3 rfl (by decide) ⟨⟨(by exact rfl), (VL.le (vl rfl) (one_cellsP _))⟩, trivial⟩ (by decide)) ?_)
 refine tp rfl (ok_build (rows := [(0, [_]), (1, [_]), (2, [_]), (3, [_]), (4, [_])]) rfl bl218 zo218 ⟨⟨rfl, (VL.le (vl rfl) (one_cellsP _))⟩, ⟨⟨rfl, (VL.le (vl rfl) (one_cellsP _))⟩, ⟨⟨rfl, (VL.le (vl rfl) (one_cellsP _))⟩, ⟨⟨rfl, ⟨_, rfl, Pr.le_trans (nil_slice 1) (one_cellsP _)⟩⟩, ⟨⟨rfl, ⟨_, rfl, Pr.le_trans (full_le _ _) (one_cellsP _)⟩⟩, trivial⟩⟩⟩⟩⟩ rfl) (tp rfl (ok_build (rows := [(1, _), (2, _), (3, _), (4, _), (5, _), (6, _), (7, _), (8, _), (9, _), (10, _), (11, _), (12, _), (13, _), (14, _), (15, _), (16, _), (17, _), (18, _), (19, _), (20, _), (21, _), (22, _)]) rfl bl243 zo243 ⟨⟨rfl, (VL.le (vl rfl) (agg_cellsP _))⟩, ⟨⟨rfl, (VL.le (vl rfl) (agg_cellsP _))⟩, ⟨⟨rfl, (VL.le (vl rfl) (agg_cellsP _))⟩, ⟨⟨rfl, (VL.le (vl rfl) (agg_cellsP _))⟩, ⟨⟨rfl, (VL.le (vl rfl) (agg_cellsP _))⟩, ⟨⟨rfl, (VL.le (vl rfl) (agg_cellsP _))⟩, ⟨⟨rfl, (VL.le (vl rfl) (agg_cellsP _))⟩, ⟨⟨rfl, (VL.le (vl rfl) (agg_cellsP _))⟩, ⟨⟨rfl, (VL.le (vl rfl) (agg_cellsP _))⟩, ⟨⟨rfl, (VL.le (vl rfl) (agg_cellsP _))⟩, ⟨⟨rfl, (VL.le (vl rfl) (agg_cellsP _))⟩, ⟨⟨rfl, (VL.le (vl rfl) (agg_cellsP _))⟩, ⟨⟨rfl, (VL.le (vl rfl) (agg_cellsP _))⟩, ⟨⟨rfl, (VL.le (vl rfl) (agg_cellsP _))⟩, ⟨⟨rfl, (VL.le (vl rfl) (agg_cellsP _))⟩, ⟨⟨rfl, (VL.le (vl rfl) (agg_cellsP _))⟩, ⟨⟨rfl, (VL.le (vl rfl) (agg_cellsP _))⟩, ⟨⟨rfl, (VL.le (vl rfl) (agg_cellsP _))⟩, ⟨⟨rfl, (VL.le (vl rfl) (agg_cellsP _))⟩, ⟨⟨rfl, (VL.le (vl rfl) (agg_cellsP _))⟩, ⟨⟨rfl, (VL.le (vl rfl) (agg_cellsP _))⟩, ⟨⟨rfl, (VL.le (vl rfl) (agg_cellsP _))⟩, trivial⟩⟩⟩⟩⟩⟩⟩⟩⟩⟩⟩⟩⟩⟩⟩⟩⟩⟩⟩⟩⟩⟩ rfl) (TO.store_all 0 rfl rfl rfl (vl rfl) (VL.le (vl rfl) (agg_cellsP _)) rfl sz243 rfl rfl (TO.nil (Fin.go (wk1 0 rfl (Tr.ret (Fin.retX1 rfl (RVal.cell 0 rfl rfl agg243 sz243 rfl (Pr.le_refl _)) ?_)))))))
 · exact agg_le ⟨Pr.le_refl _, Pr.le_refl _, Pr.le_refl _, nil_slice 1, nil_slice 1, Pr.le_refl _, Pr.le_refl _, Pr.le_refl _, Pr.le_refl _, Pr.le_refl _, Pr.le_refl _, Pr.le_refl _, Pr.le_refl _, Pr.le_refl _, Pr.le_refl _, Pr.le_refl _, Pr.le_refl _, Pr.le_refl _, Pr.le_refl _, Pr.le_refl _, Pr.le_refl _, Pr.le_refl _, Pr.le_refl _, Pr.le_refl _, Pr.le_refl _, Pr.le_refl _, Pr.le_refl _, Pr.le_refl _, Pr.le_refl _, Pr.le_refl _, Pr.le_refl _, Pr.le_refl _, Pr.le_refl _, Pr.le_refl _, Pr.le_refl _, Pr.le_refl _, Pr.le_refl _, Pr.le_refl _, Pr.le_refl _, Pr.le_refl _, Pr.le_refl _, Pr.le_refl _, Pr.le_refl _, Pr.le_refl _, Pr.le_refl _, Pr.le_refl _, Pr.le_refl _, Pr.le_refl _, Pr.le_refl _, Pr.le_refl _, Pr.le_refl _, Pr.le_refl _, Pr.le_refl _, Pr.le_refl _, Pr.le_refl _, Pr.le_refl _, Pr.le_refl _, Pr.le_refl _, Pr.le_refl _, Pr.le_refl _, Pr.le_refl _, Pr.le_refl _, Pr.le_refl _, Pr.le_refl _, Pr.le_refl _, Pr.le_refl _, Pr.le_refl _, Pr.le_refl _, Pr.le_refl _, Pr.le_refl _, Pr.le_refl _, Pr.le_refl _, Pr.le_refl _, Pr.le_refl _, Pr.le_refl _, Pr.le_refl _, Pr.le_refl _, Pr.le_refl _, Pr.le_refl _, Pr.le_refl _, Pr.le_refl _, Pr.le_refl _, Pr.le_refl _, Pr.le_refl _, Pr.le_refl _, Pr.le_refl _, Pr.le_refl _, Pr.le_refl _, Pr.le_refl _, Pr.le_refl _, Pr.le_refl _, Pr.le_refl _, Pr.le_refl _, Pr.le_refl _, Pr.le_refl _, Pr.le_refl _, Pr.le_refl _, Pr.le_refl _, Pr.le_refl _, Pr.le_refl _, Pr.le_refl _, Pr.le_refl _, Pr.le_refl _, Pr.le_refl _, Pr.le_refl _, Pr.le_refl _, Pr.le_refl _, Pr.le_refl _, Pr.le_refl _, Pr.le_refl _, Pr.le_refl _, Pr.le_refl _, Pr.le_refl _, Pr.le_refl _, Pr.le_refl _, trivial⟩
set_option maxRecDepth 20000 in
theorem w_of {alg : Int}  : Fun Tryz.prog 221 [int alg] (tup [agg (rowC (catOf alg)), bool (decide (1 ≤ alg ∧ alg ≤ 22))]) := by
 refine Fun.of Tryz.func221 rfl rfl (by exact Nat.le_of_ble_eq_true rfl) fun M0 w0 => ?_
 refine Tr.seq (Tr.regT ?_)
 refine TO.alloc rfl rfl (by decide) rfl z218 zo218 (fun b1 => ?_)
 refine tm rfl (TO.nil (Fin.go (Tr.seq (Tr.seq (Tr.reg0 (cm rfl (co rfl (ki rfl rfl rfl rfl) (cm rfl ?_))))))))
 refine Ch.cs 6 rfl ?_ ?_ <;> intro h1 q1
 refine cnf h1 rfl (cnf h1 rfl (co rfl (kpt rfl rfl h1 rfl) (Ch.nil (Fin.go (Tr.cond rfl (fun _ => ?_) (fun h => nomatch h))))))
 refine Tr.seq (Tr.regT (tp rfl (ok_build (rows := []) rfl bl218 zo218 trivial rfl) (TO.store_all 0 rfl rfl rfl (vl rfl) (VL.le (vl rfl) (agg_cellsP _)) rfl sz218 rfl rfl (tm rfl (TO.nil (Fin.go (Tr.ret (Fin.then_ret (Fin.retX2 rfl (RVal.cell 0 rfl rfl agg218 sz218 rfl (Pr.le_refl _)) (RVal.tmp rfl (Pr.le_refl _)) ?_)))))))))
 · refine tup_le ⟨?_, bool_eq (by symm; rw [decide_eq_false_iff_not]; omega), trivial⟩; unfold catOf; rw [if_neg (by omega)]; exact agg_le ⟨Pr.le_refl _, Pr.le_refl _, Pr.le_refl _, nil_slice 1, nil_slice 1, trivial⟩
 refine cym h1 rfl (cy h1 rfl (ki rfl rfl rfl rfl) (co rfl (kpf rfl rfl h1 rfl) (Ch.nil (Fin.go ?_))))
 refine Tr.cn rfl ?_ ?_ <;> intro h2 q2
 refine Tr.seq (Tr.regT (tp rfl (ok_build (rows := []) rfl bl218 zo218 trivial rfl) (TO.store_all 0 rfl rfl rfl (vl rfl) (VL.le (vl rfl) (agg_cellsP _)) rfl sz218 rfl rfl (tm rfl (TO.nil (Fin.go (Tr.ret (Fin.then_ret (Fin.retX2 rfl (RVal.cell 0 rfl rfl agg218 sz218 rfl (Pr.le_refl _)) (RVal.tmp rfl (Pr.le_refl _)) ?_)))))))))
 · refine tup_le ⟨?_, bool_eq (by symm; rw [decide_eq_false_iff_not]; omega), trivial⟩; unfold catOf; rw [if_neg (by omega)]; exact agg_le ⟨Pr.le_refl _, Pr.le_refl _, Pr.le_refl _, nil_slice 1, nil_slice 1, trivial⟩
 have hin : 1 ≤ alg ∧ alg ≤ 22 := by omega
 refine Tr.skip (Fin.go (Tr.seq (Tr.regT (tp rfl (ok_call rfl (w_rows) trivial) (tm rfl (tp rfl (ok_index rfl Tryz.underlying243 agg218 sz218 (vl rfl) (vl rfl) (by omega) (by omega) (flat_row (f := rowC) (fun _ => rfl) (catTable_at hin))) (TO.store_all 0 rfl rfl rfl (vl rfl) (VL.le (vl rfl) (agg_cellsP _)) rfl sz218 rfl rfl (tm rfl (TO.nil (Fin.go (Tr.ret (Fin.retX2 rfl (RVal.cell 0 rfl rfl agg218 sz218 rfl (Pr.le_refl _)) (RVal.tmp rfl (Pr.le_refl _)) ?_))))))))))))
 · exact tup_le ⟨Pr.le_refl _, bool_eq (by symm; rw [decide_eq_true_eq]; exact hin), trivial⟩
set_option maxRecDepth 20000 in
theorem w_Kind {alg : Int}  : Fun Tryz.prog 187 [int alg] (int (catOf alg).kind) := by
 refine Fun.of Tryz.func187 rfl rfl (by exact Nat.le_of_ble_eq_true rfl) fun M0 w0 => ?_
 refine Tr.seq (Tr.reg0 (cm rfl (Ch.nil (Fin.go (Tr.seq (Tr.regT (tm rfl (tp rfl (ok_call rfl (w_of) ⟨ke rfl, trivial⟩) (tm rfl (tp rfl (ok_extract rfl (vl rfl) rfl) (tp rfl (ok_extract rfl (vl rfl) rfl) ?_)))))))))))
 refine TO.alloc rfl rfl (by decide) rfl z218 zo218 (fun b1 => ?_)
 refine TO.store_all 0 rfl rfl rfl (vl rfl) (VL.le (vl rfl) (agg_cellsP _)) rfl sz218 rfl rfl (TO.freeze 0 3 rfl rfl (tm rfl (TO.nil (Fin.go (Tr.seq (Tr.reg0 (co rfl (kfa rfl fo218_1 rfl rfl) (co rfl (kl1 rfl one3 rfl) (cm rfl (Ch.nil (Fin.go (Tr.ret (Fin.ret1 rfl (OutW.bse _ _) rfl ?_)))))))))))))
 · exact Pr.le_refl _
set_option maxRecDepth 20000 in
theorem w_modulus {b : Int}  : Fun Tryz.prog 253 [int b] (int (modI b)) := by
 refine Fun.of Tryz.func253 rfl rfl (by exact Nat.le_of_ble_eq_true rfl) fun M0 w0 => ?_
 have hml : mods.length = 5 := rfl
 refine Tr.seq (Tr.reg0 (cm rfl (Ch.nil (Fin.go (Tr.seq (Tr.seq (Tr.reg0 ?_)))))))
 iterate 5 refine co rfl (ok_build (rows := [(0, [_]), (1, [_])]) rfl bl251 zo251 ⟨⟨rfl, (VL.le (vl rfl) (one_cellsP _))⟩, ⟨⟨rfl, (VL.le (vl rfl) (one_cellsP _))⟩, trivial⟩⟩ rfl) ?_
 refine co rfl (ok_build (rows := [(0, _), (1, _), (2, _), (3, _), (4, _)]) rfl bl252 zo252 ⟨⟨rfl, (VL.le (vl rfl) (agg_cellsP _))⟩, ⟨⟨rfl, (VL.le (vl rfl) (agg_cellsP _))⟩, ⟨⟨rfl, (VL.le (vl rfl) (agg_cellsP _))⟩, ⟨⟨rfl, (VL.le (vl rfl) (agg_cellsP _))⟩, ⟨⟨rfl, (VL.le (vl rfl) (agg_cellsP _))⟩, trivial⟩⟩⟩⟩⟩ rfl) (cm rfl (Ch.nil (Fin.go (Tr.block (Tr.re 10 rfl (Pr.le_of_eq (show _ = agg (mods.flatMap fun p => [int p.1, int p.2]) from rfl)) (Tr.loopw [(0, _), (10, _)] (kk2 rfl) (fun k : Nat => [(11, int ((k : Nat) : Int))]) (fun k : Nat => k ≤ (mods).length ∧ (modI b = modF (mods.drop k) b)) (fun k : Nat => (mods).length - k) 0 (⟨Nat.zero_le _, rfl⟩) ⟨ke rfl, trivial⟩ ?_))))))
 rintro k ⟨hle_k, hinv_k⟩
 refine Tr.seq (Tr.reg0 (co rfl (ki rfl rfl rfl rfl) (Ch.nil (Fin.go (Tr.seq ?_)))))
 refine Tr.cn rfl ?_ ?_ <;> intro h1 q1
 have hk_k : k < (mods).length := lt_of_dec h1
 obtain ⟨p, hx_k⟩ := at_ hk_k
 have hL : k < 5 := hk_k
 have hdr := drop_cons hx_k
 refine Tr.skip (Fin.go (Tr.seq (Tr.block (Tr.seq (Tr.regT (tp rfl (ok_index rfl Tryz.underlying252 agg251 sz251 (vl rfl) (vl rfl) (by omega) (by omega) (flat_row (f := fun p : Int × Int => [int p.1, int p.2]) (fun _ => rfl) hx_k)) ?_))))))
 refine TO.alloc rfl rfl (by decide) rfl z251 zo251 (fun b1 => ?_)
 refine TO.store_all 0 rfl rfl rfl (vl rfl) (VL.le (vl rfl) (agg_cellsP _)) rfl sz251 rfl rfl (TO.freeze 0 4 rfl rfl (TO.nil (Fin.go (Tr.seq (Tr.reg0 (cm rfl (co rfl (ok_indexArr rfl Tryz.underlying251 sz3 (vl rfl) (vl rfl) (by omega) (by omega) rfl) (co rfl (ok_load_hd rfl one3 (vl rfl) rfl) (co rfl (ki rfl rfl rfl rfl) (Ch.nil (Fin.go ?_)))))))))))
 refine Tr.cn rfl ?_ ?_ <;> intro h2 q2
 refine Tr.seq (Tr.reg0 (co rfl (ok_indexArr rfl Tryz.underlying251 sz3 (vl rfl) (vl rfl) (by omega) (by omega) rfl) (co rfl (ok_load_hd rfl one3 (vl rfl) rfl) (cm rfl (Ch.nil (Fin.go (wk1 2 rfl (Tr.ret (Fin.block_ret (Fin.then_ret (Fin.then_ret (Fin.block_ret (Fin.then_ret (Fin.ret1 rfl (OutW.bse _ _) rfl ?_))))))))))))))
 · refine int_eq ?_; rw [hinv_k, hdr]; exact (if_pos (by omega)).symm
 refine Tr.skip (Fin.block (Fin.go (Tr.reg0 (cad rfl rfl rfl rfl (by omega) (cm rfl (Ch.nil ?_))))))
 exact Fin.fam_same (k + 1) ⟨⟨hk_k, (by rw [hinv_k, hdr]; exact if_neg (by omega))⟩, by omega⟩ ⟨⟨_, rfl, int_succ k⟩, ke rfl, ke rfl, trivial⟩
 have he_k : k = (mods).length := by have := ge_of_dec h1; omega
 subst he_k
 refine Tr.exit (Fin.then_exit (Fin.then_exit (Fin.block_here (Fin.go (Tr.seq (Tr.reg0 (cm rfl (Ch.nil (Fin.go (Tr.ret (Fin.ret1 rfl (OutW.bse _ _) rfl ?_)))))))))))
 · refine int_eq ?_; rw [hinv_k, List.drop_length]; rfl
end Go.Proofs.YtgdlhajfajddiaaGreat
namespace Go.Proofs.YtgdlhajfajddiaaGreat
open Go Go.RowKit Cp

def curvs : List Int := [160, 224, 256, 384, 521]
def strength (alg bits : Int) : Int :=
  if 1 ≤ alg ∧ alg ≤ 22 then
    if (catOf alg).way = 0 then (if bits = 0 then ((catOf alg).strengths[0]?).getD 0 else 0)
    else if (catOf alg).way = 1 then (if 512 ≤ bits ∧ bits ≤ 16384 then modI bits else 0)
    else if (catOf alg).way = 2 then (if (curvs.any fun x => bits == x) = true then bits.tdiv 2 else 0)
    else if (catOf alg).way = 3 then (if 0 ≤ idx (fun x => bits == x) (catOf alg).sizes then ((catOf alg).strengths[(idx (fun x => bits == x) (catOf alg).sizes).toNat]?).getD 0 else 0)
    else 0
  else 0
theorem catOf_tail {alg : Int} (h : 1 ≤ alg ∧ alg ≤ 22) : catOf alg ∈ catTable.tail := by
  have h1 := catTable_at h
  refine List.mem_of_getElem? (i := alg.toNat - 1) ?_
  rw [List.getElem?_tail, show alg.toNat - 1 + 1 = alg.toNat by omega]; exact h1
theorem cat_ok : ∀ r ∈ catTable.tail, (r.way = 0 → 1 ≤ r.strengths.length) ∧ (r.way = 3 → r.sizes.length ≤ r.strengths.length) := by decide
theorem idx_lt {β : Type} (p : β → Bool) (l : List β) : idx p l < l.length := by
  unfold idx
  cases h : l.findIdx? p with
  | none => simp; omega
  | some i => rw [List.findIdx?_eq_some_iff_getElem] at h; obtain ⟨h1, _⟩ := h; simp; omega

set_option maxRecDepth 20000 in
theorem w_Strength {alg bits : Int}  : Fun Tryz.prog 220 [agg [int alg, int bits]] (int (strength alg bits)) := by
 refine Fun.of Tryz.func220 rfl rfl (by exact Nat.le_of_ble_eq_true rfl) fun M0 w0 => ?_
 refine Tr.seq (Tr.reg0 (co rfl (ok_box rfl (VL.le (vl rfl) (agg_cellsP _))) (cm rfl (Ch.nil (Fin.go (Tr.seq (Tr.regT (tp rfl (kfa rfl fo24_0 rfl rfl) (tp rfl (kl1 rfl one3 rfl) (tp rfl (ok_call rfl (w_of) ⟨ke rfl, trivial⟩) (tm rfl (tp rfl (ok_extract rfl (vl rfl) rfl) (tp rfl (ok_extract rfl (vl rfl) rfl) ?_)))))))))))))
 refine TO.alloc rfl rfl (by decide) rfl z218 zo218 (fun b1 => ?_)
 refine TO.store_all 0 rfl rfl rfl (vl rfl) (VL.le (vl rfl) (agg_cellsP _)) rfl sz218 rfl rfl (TO.freeze 0 3 rfl rfl (tm rfl (TO.nil (Fin.go (Tr.seq (Tr.seq (Tr.reg0 (cm rfl (co rfl (ok_not rfl (vl rfl)) (Ch.nil (Fin.go (wk3 1 3 13 rfl ?_))))))))))))
 refine Tr.cn rfl ?_ ?_ <;> intro h1 q1
 refine Tr.seq (Tr.reg0 (cm rfl (Ch.nil (Fin.go (Tr.ret (Fin.then_ret (Fin.ret1 rfl (OutW.bse _ _) rfl ?_)))))))
 · refine int_eq ?_; unfold strength; rw [if_neg (by intro hh; simp [hh] at h1)]
 have hin : 1 ≤ alg ∧ alg ≤ 22 := by simpa using h1
 obtain ⟨hc0, hc3⟩ := cat_ok _ (catOf_tail hin)
 refine Tr.skip (Fin.go (Tr.seq (Tr.seq (Tr.reg0 (co rfl (kfa rfl fo218_2 rfl rfl) (co rfl (kl1 rfl one3 rfl) (Ch.nil (Fin.go (Tr.block (Tr.seq (Tr.reg0 (co rfl (ki rfl rfl rfl rfl) (cm rfl ?_)))))))))))))
 refine Ch.nil (Fin.go ?_)
 refine Tr.cn rfl ?_ ?_ <;> intro h2 q2
 refine Tr.seq (Tr.reg0 (co rfl (kfa rfl fo24_1 rfl rfl) (co rfl (kl1 rfl one3 rfl) (co rfl (ki rfl rfl rfl rfl) (Ch.nil (Fin.go ?_))))))
 refine Tr.cn rfl ?_ ?_ <;> intro h3 q3
 obtain ⟨z, hz⟩ := at_ (l := (catOf alg).strengths) (k := 0) (hc0 (by omega))
 refine Tr.seq (Tr.reg0 (co rfl (kfa rfl fo218_4 rfl rfl) (co rfl (kl1 rfl one22 rfl) ?_)))
 refine co rfl (ok_indexAddr rfl Tryz.underlying22 sz3 (vl rfl) (vl rfl) (by omega) (row_at (k := 0) hz)) ?_
 refine co rfl (kl1 rfl one3 rfl) (cm rfl (Ch.nil (Fin.go (wk1 2 rfl (Tr.ret (Fin.block_ret (Fin.then_ret (Fin.ret1 rfl (OutW.bse _ _) rfl ?_))))))))
 · refine int_eq ?_; unfold strength; rw [if_pos hin, if_pos (by omega), if_pos (by omega), hz]; rfl
 refine Tr.skip (Fin.block (Fin.go (Tr.seq (Tr.reg0 (cm rfl (Ch.nil (Fin.go (Tr.ret (Fin.ret1 rfl (OutW.bse _ _) rfl ?_)))))))))
 · refine int_eq ?_; unfold strength; rw [if_pos hin, if_pos (by omega), if_neg (by omega)]
 refine Tr.seq (Tr.reg0 (co rfl (ki rfl rfl rfl rfl) (cm rfl (Ch.nil (Fin.go ?_)))))
 refine Tr.cn rfl ?_ ?_ <;> intro h4 q4
 refine Tr.seq (Tr.reg0 (co rfl (kfa rfl fo24_1 rfl rfl) (co rfl (kl1 rfl one3 rfl) (co rfl (ki rfl rfl rfl rfl) (cm rfl ?_)))))
 refine Ch.cs 30 rfl ?_ ?_ <;> intro h5 q5
 refine cy h5 rfl (kfa rfl fo24_1 rfl rfl) (cy h5 rfl (kl1 rfl one3 rfl) (cy h5 rfl (ki rfl rfl rfl rfl) (co rfl (kpt rfl rfl h5 rfl) (Ch.nil (Fin.go (wk2 1 34 rfl ?_))))))
 refine Tr.cn rfl ?_ ?_ <;> intro h6 q6
 refine Tr.seq (Tr.reg0 (co rfl (kfa rfl fo24_1 rfl rfl) (co rfl (kl1 rfl one3 rfl) (co rfl (ok_call rfl (w_modulus) ⟨ke rfl, trivial⟩) (cm rfl (Ch.nil (Fin.go (Tr.ret (Fin.block_ret (Fin.then_ret (Fin.ret1 rfl (OutW.bse _ _) rfl ?_)))))))))))
 · refine int_eq ?_; unfold strength; rw [if_pos hin, if_neg (by omega), if_pos (by omega), if_pos (by omega)]
 refine Tr.skip (Fin.block (Fin.go (Tr.seq (Tr.reg0 (cm rfl (Ch.nil (Fin.go (Tr.ret (Fin.ret1 rfl (OutW.bse _ _) rfl ?_)))))))))
 · refine int_eq ?_; unfold strength; rw [if_pos hin, if_neg (by omega), if_pos (by omega), if_neg (by omega)]
 refine cnt h5 rfl (cnt h5 rfl (cnt h5 rfl (co rfl (kpf rfl rfl h5 rfl) (Ch.nil (Fin.go (wk2 1 34 rfl (Tr.cond rfl (fun h => nomatch h) (fun _ => ?_))))))))
 refine Tr.skip (Fin.block (Fin.go (Tr.seq (Tr.reg0 (cm rfl (Ch.nil (Fin.go (Tr.ret (Fin.ret1 rfl (OutW.bse _ _) rfl ?_)))))))))
 · refine int_eq ?_; unfold strength; rw [if_pos hin, if_neg (by omega), if_pos (by omega), if_neg (by omega)]
 refine Tr.seq (Tr.reg0 (co rfl (ki rfl rfl rfl rfl) (cm rfl (Ch.nil (Fin.go ?_)))))
 refine Tr.cn rfl ?_ ?_ <;> intro h7 q7
 refine Tr.seq (Tr.reg0 (co rfl (ok_buildSlice (xs := [.const (.int .i64 (160)), .const (.int .i64 (224)), .const (.int .i64 (256)), .const (.int .i64 (384)), .const (.int .i64 (521))]) (rows := [[_], [_], [_], [_], [_]]) rfl rfl Tryz.underlying22 sz3 z3 rfl (by decide) ⟨⟨(by exact rfl), (VL.le (vl rfl) (one_cellsP _))⟩, ⟨⟨(by exact rfl), (VL.le (vl rfl) (one_cellsP _))⟩, ⟨⟨(by exact rfl), (VL.le (vl rfl) (one_cellsP _))⟩, ⟨⟨(by exact rfl), (VL.le (vl rfl) (one_cellsP _))⟩, ⟨⟨(by exact rfl), (VL.le (vl rfl) (one_cellsP _))⟩, trivial⟩⟩⟩⟩⟩ (by decide)) ?_))
 refine co rfl (kfa rfl fo24_1 rfl rfl) (co rfl (kl1 rfl one3 rfl) ?_)
 refine co rfl (ok_call rfl (w_ContainsI (l := curvs)) ⟨⟨_, rfl, full_le _ _⟩, ke rfl, trivial⟩) ?_
 refine Ch.nil (Fin.go (wk2 1 43 rfl ?_))
 refine Tr.cn rfl ?_ ?_ <;> intro h8 q8
 have hb : bits = 160 ∨ bits = 224 ∨ bits = 256 ∨ bits = 384 ∨ bits = 521 := by simpa [curvs] using h8
 refine Tr.seq (Tr.reg0 (co rfl (kfa rfl fo24_1 rfl rfl) (co rfl (kl1 rfl one3 rfl) (co rfl (ok_quo rfl (vl rfl) (vl rfl) (by omega)) (cm rfl (Ch.nil (Fin.go (Tr.ret (Fin.block_ret (Fin.then_ret (Fin.ret1 rfl (OutW.bse _ _) rfl ?_)))))))))))
 · refine int_eq ?_; unfold strength; rw [if_pos hin, if_neg (by omega), if_neg (by omega), if_pos (by omega), if_pos (by assumption)]; rcases hb with h | h | h | h | h <;> rw [h] <;> rfl
 refine Tr.skip (Fin.block (Fin.go (Tr.seq (Tr.reg0 (cm rfl (Ch.nil (Fin.go (Tr.ret (Fin.ret1 rfl (OutW.bse _ _) rfl ?_)))))))))
 · refine int_eq ?_; unfold strength; rw [if_pos hin, if_neg (by omega), if_neg (by omega), if_pos (by omega), if_neg (ne_true (by assumption))]
 refine Tr.seq (Tr.reg0 (co rfl (ki rfl rfl rfl rfl) (cm rfl (Ch.nil (Fin.go ?_)))))
 refine Tr.cn rfl ?_ ?_ <;> intro h9 q9
 refine Tr.seq (Tr.reg0 (co rfl (kfa rfl fo218_3 rfl rfl) (co rfl (kl1 rfl one22 rfl) (co rfl (kfa rfl fo24_1 rfl rfl) (co rfl (kl1 rfl one3 rfl) (co rfl (ok_call rfl (w_IndexI) ⟨ke rfl, ke rfl, trivial⟩) (cm rfl (Ch.nil (Fin.go (wk2 3 5 rfl (Tr.seq (Tr.reg0 (cm rfl ?_)))))))))))))
 refine co rfl (ki rfl rfl rfl rfl) (Ch.nil (Fin.go ?_))
 refine Tr.cn rfl ?_ ?_ <;> intro h10 q10
 have hlt := idx_lt (fun x => bits == x) (catOf alg).sizes
 obtain ⟨z, hz⟩ := at_ (l := (catOf alg).strengths) (k := (idx (fun x => bits == x) (catOf alg).sizes).toNat) (by have := hc3 (by omega); omega)
 refine Tr.seq (Tr.reg0 (co rfl (kfa rfl fo218_4 rfl rfl) (co rfl (kl1 rfl one22 rfl) (cm rfl (co rfl (ok_indexAddr rfl Tryz.underlying22 sz3 (vl rfl) (vl rfl) (by omega) (row_atI hz)) (co rfl (kl1 rfl one3 rfl) (cm rfl (Ch.nil (Fin.go (Tr.ret (Fin.block_ret (Fin.then_ret (Fin.ret1 rfl (OutW.bse _ _) rfl ?_)))))))))))))
 · refine int_eq ?_; unfold strength; rw [if_pos hin, if_neg (by omega), if_neg (by omega), if_neg (by omega), if_pos (by omega), if_pos (by assumption), hz]; rfl
 refine Tr.skip (Fin.block (Fin.go (Tr.seq (Tr.reg0 (cm rfl (Ch.nil (Fin.go (Tr.ret (Fin.ret1 rfl (OutW.bse _ _) rfl ?_)))))))))
 · refine int_eq ?_; unfold strength; rw [if_pos hin, if_neg (by omega), if_neg (by omega), if_neg (by omega), if_pos (by omega), if_neg (by omega)]
 refine Tr.skip (Fin.block (Fin.go (Tr.seq (Tr.reg0 (cm rfl (Ch.nil (Fin.go (wk1 2 rfl (Tr.ret (Fin.ret1 rfl (OutW.bse _ _) rfl ?_))))))))))
 · refine int_eq ?_; unfold strength; rw [if_pos hin, if_neg (by omega), if_neg (by omega), if_neg (by omega), if_neg (by omega)]
set_option maxRecDepth 20000 in
theorem w_Valid {alg bits : Int}  : Fun Tryz.prog 186 [agg [int alg, int bits]] (bool (decide (strength alg bits > 0))) := by
 refine Fun.of Tryz.func186 rfl rfl (by exact Nat.le_of_ble_eq_true rfl) fun M0 w0 => ?_
 refine Tr.seq (Tr.reg0 (co rfl (ok_box rfl (VL.le (vl rfl) (agg_cellsP _))) (cm rfl (Ch.nil (Fin.go (Tr.seq (Tr.reg0 (co rfl (ok_loadA rfl agg24 sz24 (vl rfl) rfl rfl) (co rfl (ok_call rfl (w_Strength) ⟨ke rfl, trivial⟩) (co rfl (ki rfl rfl rfl rfl) (cm rfl (Ch.nil (Fin.go (Tr.ret ?_))))))))))))))
 refine Fin.ret1 rfl (OutW.bse _ _) rfl ?_
 · exact Pr.le_refl _
end Go.Proofs.YtgdlhajfajddiaaGreat
namespace Go.Proofs.YtgdlhajfajddiaaGreat
open Go Go.RowKit Cp

def amongI (b : Int) (l m : List Int) : Int := if 0 ≤ idx (fun x => b == x) l then (m[(idx (fun x => b == x) l).toNat]?).getD 0 else 0
theorem among_hit {b : Int} {l m : List Int} {k : Nat} {x z : Int} (hx : l[k]? = some x) (he : x = b) (hz : m[k]? = some z) (h : ∀ j y, j < k → l[j]? = some y → (b == y) = false) : z = amongI b l m := by
  have := idx_found (p := fun x => b == x) hx (by simp [he]) h
  unfold amongI; rw [← this, if_pos (by omega), Int.toNat_natCast, hz]; rfl
theorem among_none {b : Int} {l m : List Int} (h : ∀ j y, j < l.length → l[j]? = some y → (b == y) = false) : 0 = amongI b l m := by
  have := idx_none (p := fun x => b == x) h
  unfold amongI; rw [← this, if_neg (by omega)]
def singleI (alg : Int) : Int := if alg = 1 then 18 else if alg = 2 then 60 else if alg = 3 ∨ alg = 8 ∨ alg = 21 then 128 else if alg = 4 then 192 else if alg = 18 ∨ alg = 22 then 256 else if alg = 19 then 64 else if alg = 20 then 80 else 0
def rmodI (b : Int) : Int := if b < 512 ∨ b > 16384 then 0 else if b < 1024 then 56 else if b < 2048 then 80 else if b < 3072 then 112 else if b < 7680 then 128 else if b < 15360 then 192 else 256
theorem rmodI_eq (b : Int) : rmodI b = if 512 ≤ b ∧ b ≤ 16384 then modI b else 0 := by
  have h1 : modI b = if b < 1024 then 56 else if b < 2048 then 80 else if b < 3072 then 112 else if b < 7680 then 128 else if b < 15360 then 192 else 256 := rfl
  rw [h1]; unfold rmodI
  by_cases h : 512 ≤ b ∧ b ≤ 16384
  · rw [if_pos h, if_neg (by omega)]
  · rw [if_neg h, if_pos (by omega)]

set_option maxRecDepth 20000 in
theorem w_among {b : Int} {l m : List Int} (hl : l.length ≤ m.length) : Fun Tryz.prog 223 [int b, ints l, ints m] (int (amongI b l m)) := by
 refine Fun.of Tryz.func223 rfl rfl (by exact Nat.le_of_ble_eq_true rfl) fun M0 w0 => ?_
 refine Tr.lenm 1 rfl fun hlm_1 => (Tr.seq (Tr.reg0 (cm rfl (Ch.nil (Fin.go (Tr.seq (Tr.seq (Tr.reg0 (cm rfl (Ch.nil (Fin.go (Tr.block (Tr.loopw [(0, _), (1, _), (2, _)] (kk3 rfl) (fun k : Nat => [(7, int ((k : Nat) : Int))]) (fun k : Nat => k ≤ (l).length ∧ (∀ j y, j < k → l[j]? = some y → (b == y) = false)) (fun k : Nat => (l).length - k) 0 (⟨Nat.zero_le _, fun j y hj => absurd hj (by omega)⟩) ⟨ke rfl, trivial⟩ ?_)))))))))))))
 rintro k ⟨hle_k, hinv_k⟩
 refine Tr.seq (Tr.seq (Tr.reg0 (cm rfl (cm rfl (co rfl (ok_lenm rfl Tryz.underlying22 (vl rfl)) (co rfl (ki rfl rfl rfl rfl) (Ch.nil (Fin.go ?_))))))))
 refine Tr.cn rfl ?_ ?_ <;> intro h1 q1
 have hk_k : k < (l).length := lt_of_dec h1
 obtain ⟨x, hx_k⟩ := at_ hk_k
 obtain ⟨z, hz⟩ := at_ (l := m) (k := k) (by omega)
 refine Tr.skip (Fin.go (Tr.seq (Tr.block (Tr.seq (Tr.reg0 (cm rfl (cm rfl (co rfl (ok_indexAddr rfl Tryz.underlying22 sz3 (vl rfl) (vl rfl) (by omega) (by exact row_at (by assumption))) ?_))))))))
 refine co rfl (kl1 rfl one3 rfl) (cm rfl (co rfl (ki rfl rfl rfl rfl) (Ch.nil (Fin.go (wk5 0 1 2 7 19 rfl ?_)))))
 refine Tr.cn rfl ?_ ?_ <;> intro h2 q2
 refine Tr.seq (Tr.reg0 (cm rfl (cm rfl (co rfl (ok_indexAddr rfl Tryz.underlying22 sz3 (vl rfl) (vl rfl) (by omega) (by exact row_at (by assumption))) ?_))))
 refine co rfl (kl1 rfl one3 rfl) (cm rfl (Ch.nil (Fin.go (Tr.ret (Fin.block_ret (Fin.then_ret (Fin.then_ret (Fin.block_ret (Fin.then_ret (Fin.ret1 rfl (OutW.bse _ _) rfl ?_))))))))))
 · exact int_eq (among_hit hx_k (by assumption) hz hinv_k)
 refine Tr.skip (Fin.block (Fin.go (Tr.reg0 (cm rfl (cad rfl rfl rfl rfl (by omega) (cm rfl (Ch.nil ?_)))))))
 exact Fin.fam_same (k + 1) ⟨⟨hk_k, step_no (p := fun x => b == x) hx_k (by simp; omega) hinv_k⟩, by omega⟩ ⟨⟨_, rfl, int_succ k⟩, ke rfl, ke rfl, ke rfl, trivial⟩
 have he_k : k = (l).length := by have := ge_of_dec h1; omega
 subst he_k
 refine Tr.exit (Fin.then_exit (Fin.then_exit (Fin.block_here (Fin.go (Tr.seq (Tr.reg0 (cm rfl (Ch.nil (Fin.go (Tr.ret (Fin.ret1 rfl (OutW.bse _ _) rfl ?_)))))))))))
 · exact int_eq (among_none hinv_k)
set_option maxRecDepth 20000 in
theorem w_single {alg : Int}  : Fun Tryz.prog 224 [int alg] (int (singleI alg)) := by
 refine Fun.of Tryz.func224 rfl rfl (by exact Nat.le_of_ble_eq_true rfl) fun M0 w0 => ?_
 refine Tr.seq (Tr.reg0 (cm rfl (Ch.nil (Fin.go (Tr.seq (Tr.seq (Tr.reg0 (cm rfl (Ch.nil (Fin.go (Tr.block (Tr.seq (Tr.reg0 ?_)))))))))))))
 refine co rfl (ki rfl rfl rfl rfl) (cm rfl (Ch.nil (Fin.go ?_)))
 refine Tr.cn rfl ?_ ?_ <;> intro h1 q1
 refine Tr.seq (Tr.reg0 (cm rfl (Ch.nil (Fin.go (Tr.ret (Fin.block_ret (Fin.then_ret (Fin.ret1 rfl (OutW.bse _ _) rfl ?_))))))))
 · refine int_eq ?_; unfold singleI; (repeat (rw [if_pos (by omega)]))
 refine Tr.seq (Tr.reg0 (co rfl (ki rfl rfl rfl rfl) (cm rfl (Ch.nil (Fin.go ?_)))))
 refine Tr.cn rfl ?_ ?_ <;> intro h2 q2
 refine Tr.seq (Tr.reg0 (cm rfl (Ch.nil (Fin.go (Tr.ret (Fin.block_ret (Fin.then_ret (Fin.ret1 rfl (OutW.bse _ _) rfl ?_))))))))
 · refine int_eq ?_; unfold singleI; (repeat (first | rw [if_pos (by omega)] | rw [if_neg (by omega)]))
 refine Tr.seq (Tr.seq (Tr.reg0 (co rfl (ki rfl rfl rfl rfl) (cm rfl (Ch.nil (Fin.go ?_))))))
 refine Tr.cn rfl ?_ ?_ <;> intro h3 q3
 refine Tr.skip (Fin.go (Tr.cond rfl (fun _ => ?_) (fun h => nomatch h3.symm.trans h)))
 refine Tr.seq (Tr.reg0 (cm rfl (Ch.nil (Fin.go (Tr.ret (Fin.block_ret (Fin.then_ret (Fin.ret1 rfl (OutW.bse _ _) rfl ?_))))))))
 · refine int_eq ?_; unfold singleI; (repeat (first | rw [if_pos (by omega)] | rw [if_neg (by omega)]))
 refine Tr.seq (Tr.reg0 (co rfl (ki rfl rfl rfl rfl) (cm rfl (Ch.nil (Fin.go ?_)))))
 refine Tr.cn rfl ?_ ?_ <;> intro h4 q4
 refine Tr.skip (Fin.go (Tr.cond rfl (fun _ => ?_) (fun h => nomatch h4.symm.trans h)))
 refine Tr.seq (Tr.reg0 (cm rfl (Ch.nil (Fin.go (Tr.ret (Fin.block_ret (Fin.then_ret (Fin.ret1 rfl (OutW.bse _ _) rfl ?_))))))))
 · refine int_eq ?_; unfold singleI; (repeat (first | rw [if_pos (by omega)] | rw [if_neg (by omega)]))
 refine Tr.reg0 (co rfl (ki rfl rfl rfl rfl) (cm rfl (Ch.nil (Fin.go ?_))))
 refine Tr.cn rfl ?_ ?_ <;> intro h5 q5
 refine Tr.seq (Tr.reg0 (cm rfl (Ch.nil (Fin.go (Tr.ret (Fin.block_ret (Fin.then_ret (Fin.ret1 rfl (OutW.bse _ _) rfl ?_))))))))
 · refine int_eq ?_; unfold singleI; (repeat (first | rw [if_pos (by omega)] | rw [if_neg (by omega)]))
 refine Tr.seq (Tr.reg0 (co rfl (ki rfl rfl rfl rfl) (cm rfl (Ch.nil (Fin.go (wk2 3 12 rfl ?_))))))
 refine Tr.cn rfl ?_ ?_ <;> intro h6 q6
 refine Tr.seq (Tr.reg0 (cm rfl (Ch.nil (Fin.go (Tr.ret (Fin.block_ret (Fin.then_ret (Fin.ret1 rfl (OutW.bse _ _) rfl ?_))))))))
 · refine int_eq ?_; unfold singleI; (repeat (first | rw [if_pos (by omega)] | rw [if_neg (by omega)]))
 refine Tr.seq (Tr.seq (Tr.reg0 (co rfl (ki rfl rfl rfl rfl) (cm rfl (Ch.nil (Fin.go ?_))))))
 refine Tr.cn rfl ?_ ?_ <;> intro h7 q7
 refine Tr.skip (Fin.go (Tr.cond rfl (fun _ => ?_) (fun h => nomatch h7.symm.trans h)))
 refine Tr.seq (Tr.reg0 (cm rfl (Ch.nil (Fin.go (Tr.ret (Fin.block_ret (Fin.then_ret (Fin.ret1 rfl (OutW.bse _ _) rfl ?_))))))))
 · refine int_eq ?_; unfold singleI; (repeat (first | rw [if_pos (by omega)] | rw [if_neg (by omega)]))
 refine Tr.reg0 (co rfl (ki rfl rfl rfl rfl) (cm rfl (Ch.nil (Fin.go ?_))))
 refine Tr.cn rfl ?_ ?_ <;> intro h8 q8
 refine Tr.seq (Tr.reg0 (cm rfl (Ch.nil (Fin.go (Tr.ret (Fin.block_ret (Fin.then_ret (Fin.ret1 rfl (OutW.bse _ _) rfl ?_))))))))
 · refine int_eq ?_; unfold singleI; (repeat (first | rw [if_pos (by omega)] | rw [if_neg (by omega)]))
 refine Tr.seq (Tr.reg0 (co rfl (ki rfl rfl rfl rfl) (cm rfl (Ch.nil (Fin.go ?_)))))
 refine Tr.cn rfl ?_ ?_ <;> intro h9 q9
 refine Tr.seq (Tr.reg0 (cm rfl (Ch.nil (Fin.go (Tr.ret (Fin.block_ret (Fin.then_ret (Fin.ret1 rfl (OutW.bse _ _) rfl ?_))))))))
 · refine int_eq ?_; unfold singleI; (repeat (first | rw [if_pos (by omega)] | rw [if_neg (by omega)]))
 refine Tr.seq (Tr.reg0 (co rfl (ki rfl rfl rfl rfl) (cm rfl (Ch.nil (Fin.go ?_)))))
 refine Tr.cn rfl ?_ ?_ <;> intro h10 q10
 refine Tr.seq (Tr.reg0 (cm rfl (Ch.nil (Fin.go (Tr.ret (Fin.block_ret (Fin.then_ret (Fin.ret1 rfl (OutW.bse _ _) rfl ?_))))))))
 · refine int_eq ?_; unfold singleI; (repeat (first | rw [if_pos (by omega)] | rw [if_neg (by omega)]))
 refine Tr.skip (Fin.block (Fin.go (Tr.seq (Tr.reg0 (cm rfl (Ch.nil (Fin.go (Tr.ret (Fin.ret1 rfl (OutW.bse _ _) rfl ?_)))))))))
 · refine int_eq ?_; unfold singleI; (repeat (rw [if_neg (by omega)]))
set_option maxRecDepth 20000 in
theorem w_Rmodulus {b : Int}  : Fun Tryz.prog 222 [int b] (int (rmodI b)) := by
 refine Fun.of Tryz.func222 rfl rfl (by exact Nat.le_of_ble_eq_true rfl) fun M0 w0 => ?_
 refine Tr.seq (Tr.reg0 (cm rfl (Ch.nil (Fin.go (Tr.seq (Tr.block (Tr.seq (Tr.reg0 (cm rfl (co rfl (ki rfl rfl rfl rfl) (cm rfl ?_)))))))))))
 refine Ch.cs 6 rfl ?_ ?_ <;> intro h1 q1
 refine cnf h1 rfl (cnf h1 rfl (co rfl (kpt rfl rfl h1 rfl) (cm rfl (Ch.nil (Fin.go (Tr.cond rfl (fun _ => ?_) (fun h => nomatch h)))))))
 refine Tr.seq (Tr.reg0 (cm rfl (Ch.nil (Fin.go (Tr.ret (Fin.block_ret (Fin.then_ret (Fin.ret1 rfl (OutW.bse _ _) rfl ?_))))))))
 · refine int_eq ?_; unfold rmodI; (repeat (rw [if_pos (by omega)]))
 refine cym h1 rfl (cy h1 rfl (ki rfl rfl rfl rfl) (co rfl (kpf rfl rfl h1 rfl) (cm rfl (Ch.nil (Fin.go ?_)))))
 refine Tr.cn rfl ?_ ?_ <;> intro h2 q2
 refine Tr.seq (Tr.reg0 (cm rfl (Ch.nil (Fin.go (Tr.ret (Fin.block_ret (Fin.then_ret (Fin.ret1 rfl (OutW.bse _ _) rfl ?_))))))))
 · refine int_eq ?_; unfold rmodI; (repeat (rw [if_pos (by omega)]))
 refine Tr.seq (Tr.reg0 (cm rfl (co rfl (ki rfl rfl rfl rfl) (cm rfl (Ch.nil (Fin.go ?_))))))
 refine Tr.cn rfl ?_ ?_ <;> intro h3 q3
 refine Tr.seq (Tr.reg0 (cm rfl (Ch.nil (Fin.go (Tr.ret (Fin.block_ret (Fin.then_ret (Fin.ret1 rfl (OutW.bse _ _) rfl ?_))))))))
 · refine int_eq ?_; unfold rmodI; (repeat (first | rw [if_pos (by omega)] | rw [if_neg (by omega)]))
 refine Tr.seq (Tr.reg0 (cm rfl (co rfl (ki rfl rfl rfl rfl) (cm rfl (Ch.nil (Fin.go (wk2 0 13 rfl ?_)))))))
 refine Tr.cn rfl ?_ ?_ <;> intro h4 q4
 refine Tr.seq (Tr.reg0 (cm rfl (Ch.nil (Fin.go (Tr.ret (Fin.block_ret (Fin.then_ret (Fin.ret1 rfl (OutW.bse _ _) rfl ?_))))))))
 · refine int_eq ?_; unfold rmodI; (repeat (first | rw [if_pos (by omega)] | rw [if_neg (by omega)]))
 refine Tr.seq (Tr.reg0 (cm rfl (co rfl (ki rfl rfl rfl rfl) (cm rfl (Ch.nil (Fin.go ?_))))))
 refine Tr.cn rfl ?_ ?_ <;> intro h5 q5
 refine Tr.seq (Tr.reg0 (cm rfl (Ch.nil (Fin.go (Tr.ret (Fin.block_ret (Fin.then_ret (Fin.ret1 rfl (OutW.bse _ _) rfl ?_))))))))
 · refine int_eq ?_; unfold rmodI; (repeat (first | rw [if_pos (by omega)] | rw [if_neg (by omega)]))
 refine Tr.seq (Tr.reg0 (cm rfl (co rfl (ki rfl rfl rfl rfl) (cm rfl (Ch.nil (Fin.go ?_))))))
 refine Tr.cn rfl ?_ ?_ <;> intro h6 q6
 refine Tr.seq (Tr.reg0 (cm rfl (Ch.nil (Fin.go (Tr.ret (Fin.block_ret (Fin.then_ret (Fin.ret1 rfl (OutW.bse _ _) rfl ?_))))))))
 · refine int_eq ?_; unfold rmodI; (repeat (first | rw [if_pos (by omega)] | rw [if_neg (by omega)]))
 refine Tr.seq (Tr.reg0 (cm rfl (co rfl (ki rfl rfl rfl rfl) (cm rfl (Ch.nil (Fin.go ?_))))))
 refine Tr.cn rfl ?_ ?_ <;> intro h7 q7
 refine Tr.seq (Tr.reg0 (cm rfl (Ch.nil (Fin.go (Tr.ret (Fin.block_ret (Fin.then_ret (Fin.ret1 rfl (OutW.bse _ _) rfl ?_))))))))
 · refine int_eq ?_; unfold rmodI; (repeat (first | rw [if_pos (by omega)] | rw [if_neg (by omega)]))
 refine Tr.skip (Fin.block (Fin.go (Tr.seq (Tr.reg0 (cm rfl (Ch.nil (Fin.go (Tr.ret (Fin.ret1 rfl (OutW.bse _ _) rfl ?_)))))))))
 · refine int_eq ?_; unfold rmodI; (repeat (rw [if_neg (by omega)]))
end Go.Proofs.YtgdlhajfajddiaaGreat
namespace Go.Proofs.YtgdlhajfajddiaaGreat
open Go Go.RowKit Cp

theorem among_0 (b c : Int) : amongI b [0] [c] = if b = 0 then c else 0 := by
  unfold amongI idx
  by_cases h : b = 0
  · subst h; rfl
  · have : List.findIdx? (fun x => b == x) [0] = none := by simp [h]
    rw [this, if_neg h]; rfl
theorem strength_mod {alg b : Int} (h : alg = 5 ∨ alg = 6 ∨ alg = 10 ∨ alg = 11) : rmodI b = strength alg b := by
  rw [rmodI_eq]
  rcases h with rfl | rfl | rfl | rfl <;> rfl
theorem strength_rest {alg b : Int} (h : ¬ (alg = 5 ∨ alg = 6 ∨ alg = 7 ∨ alg = 9 ∨ alg = 10 ∨ alg = 11 ∨ alg = 12 ∨ alg = 13 ∨ alg = 14 ∨ alg = 15 ∨ alg = 16 ∨ alg = 17)) : amongI b [0] [singleI alg] = strength alg b := by
  rw [among_0]
  by_cases hin : 1 ≤ alg ∧ alg ≤ 22
  · have ha : alg = 1 ∨ alg = 2 ∨ alg = 3 ∨ alg = 4 ∨ alg = 8 ∨ alg = 18 ∨ alg = 19 ∨ alg = 20 ∨ alg = 21 ∨ alg = 22 := by omega
    rcases ha with rfl | rfl | rfl | rfl | rfl | rfl | rfl | rfl | rfl | rfl <;> rfl
  · have h1 : singleI alg = 0 := by unfold singleI; (repeat (first | rw [if_pos (by omega)] | rw [if_neg (by omega)]))
    unfold strength
    rw [h1, if_neg hin]; split <;> rfl
theorem strength_cur {alg b : Int} (h : alg = 7 ∨ alg = 12) : strength alg b = if (curvs.any fun x => b == x) = true then b.tdiv 2 else 0 := by
  rcases h with rfl | rfl <;> rfl

set_option maxRecDepth 20000 in
theorem w_RStrength {alg bits : Int}  : Fun Tryz.prog 188 [agg [int alg, int bits]] (int (strength alg bits)) := by
 refine Fun.of Tryz.func188 rfl rfl (by exact Nat.le_of_ble_eq_true rfl) fun M0 w0 => ?_
 refine Tr.seq (Tr.reg0 (co rfl (ok_box rfl (VL.le (vl rfl) (agg_cellsP _))) (cm rfl (Ch.nil (Fin.go (Tr.seq (Tr.reg0 (co rfl (kfa rfl fo24_1 rfl rfl) (co rfl (kl1 rfl one3 rfl) (cm rfl (Ch.nil (Fin.go (Tr.seq (Tr.seq ?_))))))))))))))
 refine Tr.reg0 (co rfl (kfa rfl fo24_0 rfl rfl) (co rfl (kl1 rfl one3 rfl) (Ch.nil (Fin.go (Tr.block (Tr.seq (Tr.seq (Tr.reg0 (co rfl (ki rfl rfl rfl rfl) (cm rfl (Ch.nil (Fin.go ?_))))))))))))
 refine Tr.cn rfl ?_ ?_ <;> intro h1 q1
 refine Tr.skip (Fin.go (Tr.cond rfl (fun _ => ?_) (fun h => nomatch h1.symm.trans h)))
 refine Tr.seq (Tr.reg0 (cm rfl (co rfl (ok_call rfl (w_Rmodulus) ⟨ke rfl, trivial⟩) (cm rfl (Ch.nil (Fin.go (Tr.ret (Fin.block_ret (Fin.then_ret (Fin.ret1 rfl (OutW.bse _ _) rfl ?_))))))))))
 · refine int_eq ?_; exact strength_mod (by omega)
 refine Tr.seq (Tr.reg0 (co rfl (ki rfl rfl rfl rfl) (cm rfl (Ch.nil (Fin.go ?_)))))
 refine Tr.cn rfl ?_ ?_ <;> intro h2 q2
 refine Tr.skip (Fin.go (Tr.cond rfl (fun _ => ?_) (fun h => nomatch h2.symm.trans h)))
 refine Tr.seq (Tr.reg0 (cm rfl (co rfl (ok_call rfl (w_Rmodulus) ⟨ke rfl, trivial⟩) (cm rfl (Ch.nil (Fin.go (wk1 2 rfl (Tr.ret (Fin.block_ret (Fin.then_ret (Fin.ret1 rfl (OutW.bse _ _) rfl ?_)))))))))))
 · refine int_eq ?_; exact strength_mod (by omega)
 refine Tr.seq (Tr.reg0 (co rfl (ki rfl rfl rfl rfl) (cm rfl (Ch.nil (Fin.go ?_)))))
 refine Tr.cn rfl ?_ ?_ <;> intro h3 q3
 refine Tr.skip (Fin.go (Tr.cond rfl (fun _ => ?_) (fun h => nomatch h3.symm.trans h)))
 refine Tr.seq (Tr.reg0 (cm rfl (co rfl (ok_call rfl (w_Rmodulus) ⟨ke rfl, trivial⟩) (cm rfl (Ch.nil (Fin.go (wk1 2 rfl (Tr.ret (Fin.block_ret (Fin.then_ret (Fin.ret1 rfl (OutW.bse _ _) rfl ?_)))))))))))
 · refine int_eq ?_; exact strength_mod (by omega)
 refine Tr.reg0 (co rfl (ki rfl rfl rfl rfl) (cm rfl (Ch.nil (Fin.go (wk4 1 3 7 8 rfl ?_)))))
 refine Tr.cn rfl ?_ ?_ <;> intro h4 q4
 refine Tr.seq (Tr.reg0 (cm rfl (co rfl (ok_call rfl (w_Rmodulus) ⟨ke rfl, trivial⟩) (cm rfl (Ch.nil (Fin.go (Tr.ret (Fin.block_ret (Fin.then_ret (Fin.ret1 rfl (OutW.bse _ _) rfl ?_))))))))))
 · refine int_eq ?_; exact strength_mod (by omega)
 refine Tr.seq (Tr.seq (Tr.reg0 (co rfl (ki rfl rfl rfl rfl) (cm rfl (Ch.nil (Fin.go ?_))))))
 refine Tr.cn rfl ?_ ?_ <;> intro h5 q5
 refine Tr.skip (Fin.go (Tr.cond rfl (fun _ => ?_) (fun h => nomatch h5.symm.trans h)))
 refine Tr.seq (Tr.seq (Tr.reg0 (cm rfl (co rfl (ki rfl rfl rfl rfl) (cm rfl ?_)))))
 refine Ch.cs 20 rfl ?_ ?_ <;> intro h6 q6
 refine cnf h6 rfl (cnf h6 rfl (co rfl (kpt rfl rfl h6 rfl) (cm rfl (cnd rfl rfl (cnd rfl rfl (co rfl (kpt rfl rfl rfl rfl) (cm rfl (cnd rfl rfl (cnd rfl rfl (co rfl (kpt rfl rfl rfl rfl) (cm rfl (cnd rfl rfl (cnd rfl rfl ?_)))))))))))))
 refine co rfl (kpt rfl rfl rfl rfl) (Ch.nil (Fin.go (wk2 3 35 rfl (Tr.cond rfl (fun _ => ?_) (fun h => nomatch h)))))
 refine Tr.seq (Tr.reg0 (cm rfl (co rfl (ok_quo rfl (vl rfl) (vl rfl) (by omega)) (cm rfl (Ch.nil (Fin.go (Tr.ret (Fin.then_ret (Fin.block_ret (Fin.then_ret (Fin.ret1 rfl (OutW.bse _ _) rfl ?_)))))))))))
 · refine int_eq ?_; rw [strength_cur (by omega)]; have hb : bits = 160 ∨ bits = 224 ∨ bits = 256 ∨ bits = 384 ∨ bits = 521 := (by omega); rcases hb with rfl | rfl | rfl | rfl | rfl <;> rfl
 refine cym h6 rfl (cy h6 rfl (ki rfl rfl rfl rfl) (co rfl (kpf rfl rfl h6 rfl) (cm rfl ?_)))
 refine Ch.cs 24 rfl ?_ ?_ <;> intro h7 q7
 refine cnf h7 rfl (cnf h7 rfl (co rfl (kpt rfl rfl h7 rfl) (cm rfl (cnd rfl rfl (cnd rfl rfl (co rfl (kpt rfl rfl rfl rfl) (cm rfl (cnd rfl rfl (cnd rfl rfl (co rfl (kpt rfl rfl rfl rfl) (Ch.nil (Fin.go (wk2 3 35 rfl (Tr.cond rfl (fun _ => ?_) (fun h => nomatch h)))))))))))))))
 refine Tr.seq (Tr.reg0 (cm rfl (co rfl (ok_quo rfl (vl rfl) (vl rfl) (by omega)) (cm rfl (Ch.nil (Fin.go (Tr.ret (Fin.then_ret (Fin.block_ret (Fin.then_ret (Fin.ret1 rfl (OutW.bse _ _) rfl ?_)))))))))))
 · refine int_eq ?_; rw [strength_cur (by omega)]; have hb : bits = 160 ∨ bits = 224 ∨ bits = 256 ∨ bits = 384 ∨ bits = 521 := (by omega); rcases hb with rfl | rfl | rfl | rfl | rfl <;> rfl
 refine cym h7 rfl (cy h7 rfl (ki rfl rfl rfl rfl) (co rfl (kpf rfl rfl h7 rfl) (cm rfl ?_)))
 refine Ch.cs 28 rfl ?_ ?_ <;> intro h8 q8
 refine cnf h8 rfl (cnf h8 rfl (co rfl (kpt rfl rfl h8 rfl) (cm rfl (cnd rfl rfl (cnd rfl rfl (co rfl (kpt rfl rfl rfl rfl) (Ch.nil (Fin.go (wk2 3 35 rfl (Tr.cond rfl (fun _ => ?_) (fun h => nomatch h)))))))))))
 refine Tr.seq (Tr.reg0 (cm rfl (co rfl (ok_quo rfl (vl rfl) (vl rfl) (by omega)) (cm rfl (Ch.nil (Fin.go (Tr.ret (Fin.then_ret (Fin.block_ret (Fin.then_ret (Fin.ret1 rfl (OutW.bse _ _) rfl ?_)))))))))))
 · refine int_eq ?_; rw [strength_cur (by omega)]; have hb : bits = 160 ∨ bits = 224 ∨ bits = 256 ∨ bits = 384 ∨ bits = 521 := (by omega); rcases hb with rfl | rfl | rfl | rfl | rfl <;> rfl
 refine cym h8 rfl (cy h8 rfl (ki rfl rfl rfl rfl) (co rfl (kpf rfl rfl h8 rfl) (cm rfl ?_)))
 refine Ch.cs 32 rfl ?_ ?_ <;> intro h9 q9
 refine cnf h9 rfl (cnf h9 rfl (co rfl (kpt rfl rfl h9 rfl) (Ch.nil (Fin.go (wk2 3 35 rfl (Tr.cond rfl (fun _ => ?_) (fun h => nomatch h)))))))
 refine Tr.seq (Tr.reg0 (cm rfl (co rfl (ok_quo rfl (vl rfl) (vl rfl) (by omega)) (cm rfl (Ch.nil (Fin.go (Tr.ret (Fin.then_ret (Fin.block_ret (Fin.then_ret (Fin.ret1 rfl (OutW.bse _ _) rfl ?_)))))))))))
 · refine int_eq ?_; rw [strength_cur (by omega)]; have hb : bits = 160 ∨ bits = 224 ∨ bits = 256 ∨ bits = 384 ∨ bits = 521 := (by omega); rcases hb with rfl | rfl | rfl | rfl | rfl <;> rfl
 refine cym h9 rfl (cy h9 rfl (ki rfl rfl rfl rfl) (co rfl (kpf rfl rfl h9 rfl) (Ch.nil (Fin.go (wk2 3 35 rfl ?_)))))
 refine Tr.cn rfl ?_ ?_ <;> intro h10 q10
 refine Tr.seq (Tr.reg0 (cm rfl (co rfl (ok_quo rfl (vl rfl) (vl rfl) (by omega)) (cm rfl (Ch.nil (Fin.go (Tr.ret (Fin.then_ret (Fin.block_ret (Fin.then_ret (Fin.ret1 rfl (OutW.bse _ _) rfl ?_)))))))))))
 · refine int_eq ?_; rw [strength_cur (by omega)]; have hb : bits = 160 ∨ bits = 224 ∨ bits = 256 ∨ bits = 384 ∨ bits = 521 := (by omega); rcases hb with rfl | rfl | rfl | rfl | rfl <;> rfl
 refine Tr.skip (Fin.go (Tr.seq (Tr.reg0 (cm rfl (Ch.nil (Fin.go (Tr.ret (Fin.block_ret (Fin.then_ret (Fin.ret1 rfl (OutW.bse _ _) rfl ?_))))))))))
 · refine int_eq ?_; rw [strength_cur (by omega), if_neg (by simp [curvs]; omega)]
 refine Tr.reg0 (co rfl (ki rfl rfl rfl rfl) (cm rfl (Ch.nil (Fin.go ?_))))
 refine Tr.cn rfl ?_ ?_ <;> intro h11 q11
 refine Tr.seq (Tr.seq (Tr.reg0 (cm rfl (co rfl (ki rfl rfl rfl rfl) (cm rfl ?_)))))
 refine Ch.cs 20 rfl ?_ ?_ <;> intro h12 q12
 refine cnf h12 rfl (cnf h12 rfl (co rfl (kpt rfl rfl h12 rfl) (cm rfl (cnd rfl rfl (cnd rfl rfl (co rfl (kpt rfl rfl rfl rfl) (cm rfl (cnd rfl rfl (cnd rfl rfl (co rfl (kpt rfl rfl rfl rfl) (cm rfl (cnd rfl rfl (cnd rfl rfl ?_)))))))))))))
 refine co rfl (kpt rfl rfl rfl rfl) (Ch.nil (Fin.go (wk2 3 35 rfl (Tr.cond rfl (fun _ => ?_) (fun h => nomatch h)))))
 refine Tr.seq (Tr.reg0 (cm rfl (co rfl (ok_quo rfl (vl rfl) (vl rfl) (by omega)) (cm rfl (Ch.nil (Fin.go (Tr.ret (Fin.then_ret (Fin.block_ret (Fin.then_ret (Fin.ret1 rfl (OutW.bse _ _) rfl ?_)))))))))))
 · refine int_eq ?_; rw [strength_cur (by omega)]; have hb : bits = 160 ∨ bits = 224 ∨ bits = 256 ∨ bits = 384 ∨ bits = 521 := (by omega); rcases hb with rfl | rfl | rfl | rfl | rfl <;> rfl
 refine cym h12 rfl (cy h12 rfl (ki rfl rfl rfl rfl) (co rfl (kpf rfl rfl h12 rfl) (cm rfl ?_)))
 refine Ch.cs 24 rfl ?_ ?_ <;> intro h13 q13
 refine cnf h13 rfl (cnf h13 rfl (co rfl (kpt rfl rfl h13 rfl) (cm rfl (cnd rfl rfl (cnd rfl rfl (co rfl (kpt rfl rfl rfl rfl) (cm rfl (cnd rfl rfl (cnd rfl rfl (co rfl (kpt rfl rfl rfl rfl) (Ch.nil (Fin.go (wk2 3 35 rfl (Tr.cond rfl (fun _ => ?_) (fun h => nomatch h)))))))))))))))
 refine Tr.seq (Tr.reg0 (cm rfl (co rfl (ok_quo rfl (vl rfl) (vl rfl) (by omega)) (cm rfl (Ch.nil (Fin.go (Tr.ret (Fin.then_ret (Fin.block_ret (Fin.then_ret (Fin.ret1 rfl (OutW.bse _ _) rfl ?_)))))))))))
 · refine int_eq ?_; rw [strength_cur (by omega)]; have hb : bits = 160 ∨ bits = 224 ∨ bits = 256 ∨ bits = 384 ∨ bits = 521 := (by omega); rcases hb with rfl | rfl | rfl | rfl | rfl <;> rfl
 refine cym h13 rfl (cy h13 rfl (ki rfl rfl rfl rfl) (co rfl (kpf rfl rfl h13 rfl) (cm rfl ?_)))
 refine Ch.cs 28 rfl ?_ ?_ <;> intro h14 q14
 refine cnf h14 rfl (cnf h14 rfl (co rfl (kpt rfl rfl h14 rfl) (cm rfl (cnd rfl rfl (cnd rfl rfl (co rfl (kpt rfl rfl rfl rfl) (Ch.nil (Fin.go (wk2 3 35 rfl (Tr.cond rfl (fun _ => ?_) (fun h => nomatch h)))))))))))
 refine Tr.seq (Tr.reg0 (cm rfl (co rfl (ok_quo rfl (vl rfl) (vl rfl) (by omega)) (cm rfl (Ch.nil (Fin.go (Tr.ret (Fin.then_ret (Fin.block_ret (Fin.then_ret (Fin.ret1 rfl (OutW.bse _ _) rfl ?_)))))))))))
 · refine int_eq ?_; rw [strength_cur (by omega)]; have hb : bits = 160 ∨ bits = 224 ∨ bits = 256 ∨ bits = 384 ∨ bits = 521 := (by omega); rcases hb with rfl | rfl | rfl | rfl | rfl <;> rfl
 refine cym h14 rfl (cy h14 rfl (ki rfl rfl rfl rfl) (co rfl (kpf rfl rfl h14 rfl) (cm rfl ?_)))
 refine Ch.cs 32 rfl ?_ ?_ <;> intro h15 q15
 refine cnf h15 rfl (cnf h15 rfl (co rfl (kpt rfl rfl h15 rfl) (Ch.nil (Fin.go (wk2 3 35 rfl (Tr.cond rfl (fun _ => ?_) (fun h => nomatch h)))))))
 refine Tr.seq (Tr.reg0 (cm rfl (co rfl (ok_quo rfl (vl rfl) (vl rfl) (by omega)) (cm rfl (Ch.nil (Fin.go (Tr.ret (Fin.then_ret (Fin.block_ret (Fin.then_ret (Fin.ret1 rfl (OutW.bse _ _) rfl ?_)))))))))))
 · refine int_eq ?_; rw [strength_cur (by omega)]; have hb : bits = 160 ∨ bits = 224 ∨ bits = 256 ∨ bits = 384 ∨ bits = 521 := (by omega); rcases hb with rfl | rfl | rfl | rfl | rfl <;> rfl
 refine cym h15 rfl (cy h15 rfl (ki rfl rfl rfl rfl) (co rfl (kpf rfl rfl h15 rfl) (Ch.nil (Fin.go (wk2 3 35 rfl ?_)))))
 refine Tr.cn rfl ?_ ?_ <;> intro h16 q16
 refine Tr.seq (Tr.reg0 (cm rfl (co rfl (ok_quo rfl (vl rfl) (vl rfl) (by omega)) (cm rfl (Ch.nil (Fin.go (Tr.ret (Fin.then_ret (Fin.block_ret (Fin.then_ret (Fin.ret1 rfl (OutW.bse _ _) rfl ?_)))))))))))
 · refine int_eq ?_; rw [strength_cur (by omega)]; have hb : bits = 160 ∨ bits = 224 ∨ bits = 256 ∨ bits = 384 ∨ bits = 521 := (by omega); rcases hb with rfl | rfl | rfl | rfl | rfl <;> rfl
 refine Tr.skip (Fin.go (Tr.seq (Tr.reg0 (cm rfl (Ch.nil (Fin.go (Tr.ret (Fin.block_ret (Fin.then_ret (Fin.ret1 rfl (OutW.bse _ _) rfl ?_))))))))))
 · refine int_eq ?_; rw [strength_cur (by omega), if_neg (by simp [curvs]; omega)]
 refine Tr.seq (Tr.reg0 (co rfl (ki rfl rfl rfl rfl) (cm rfl (Ch.nil (Fin.go ?_)))))
 refine Tr.cn rfl ?_ ?_ <;> intro h17 q17
 refine Tr.seq (Tr.reg0 (cm rfl (co rfl (ok_buildSlice (xs := [.const (.int .i64 (44)), .const (.int .i64 (65)), .const (.int .i64 (87))]) (rows := [[_], [_], [_]]) rfl rfl Tryz.underlying22 sz3 z3 rfl (by decide) ⟨⟨(by exact rfl), (VL.le (vl rfl) (one_cellsP _))⟩, ⟨⟨(by exact rfl), (VL.le (vl rfl) (one_cellsP _))⟩, ⟨⟨(by exact rfl), (VL.le (vl rfl) (one_cellsP _))⟩, trivial⟩⟩⟩ (by decide)) ?_)))
 refine co rfl (ok_buildSlice (xs := [.const (.int .i64 (128)), .const (.int .i64 (192)), .const (.int .i64 (256))]) (rows := [[_], [_], [_]]) rfl rfl Tryz.underlying22 sz3 z3 rfl (by decide) ⟨⟨(by exact rfl), (VL.le (vl rfl) (one_cellsP _))⟩, ⟨⟨(by exact rfl), (VL.le (vl rfl) (one_cellsP _))⟩, ⟨⟨(by exact rfl), (VL.le (vl rfl) (one_cellsP _))⟩, trivial⟩⟩⟩ (by decide)) ?_
 refine co rfl (ok_call rfl (w_among (l := [44, 65, 87]) (m := [128, 192, 256]) (by simp)) ⟨ke rfl, ⟨_, rfl, full_le _ _⟩, ⟨_, rfl, full_le _ _⟩, trivial⟩) ?_
 refine cm rfl (Ch.nil (Fin.go (wk1 2 rfl (Tr.ret (Fin.block_ret (Fin.then_ret (Fin.ret1 rfl (OutW.bse _ _) rfl ?_)))))))
 · refine int_eq ?_; have ha : alg = 9 := (by omega); rcases ha with rfl <;> rfl
 refine Tr.seq (Tr.reg0 (co rfl (ki rfl rfl rfl rfl) (cm rfl (Ch.nil (Fin.go ?_)))))
 refine Tr.cn rfl ?_ ?_ <;> intro h18 q18
 refine Tr.seq (Tr.reg0 (cm rfl (co rfl (ok_buildSlice (xs := [.const (.int .i64 (512)), .const (.int .i64 (768)), .const (.int .i64 (1024))]) (rows := [[_], [_], [_]]) rfl rfl Tryz.underlying22 sz3 z3 rfl (by decide) ⟨⟨(by exact rfl), (VL.le (vl rfl) (one_cellsP _))⟩, ⟨⟨(by exact rfl), (VL.le (vl rfl) (one_cellsP _))⟩, ⟨⟨(by exact rfl), (VL.le (vl rfl) (one_cellsP _))⟩, trivial⟩⟩⟩ (by decide)) ?_)))
 refine co rfl (ok_buildSlice (xs := [.const (.int .i64 (128)), .const (.int .i64 (192)), .const (.int .i64 (256))]) (rows := [[_], [_], [_]]) rfl rfl Tryz.underlying22 sz3 z3 rfl (by decide) ⟨⟨(by exact rfl), (VL.le (vl rfl) (one_cellsP _))⟩, ⟨⟨(by exact rfl), (VL.le (vl rfl) (one_cellsP _))⟩, ⟨⟨(by exact rfl), (VL.le (vl rfl) (one_cellsP _))⟩, trivial⟩⟩⟩ (by decide)) ?_
 refine co rfl (ok_call rfl (w_among (l := [512, 768, 1024]) (m := [128, 192, 256]) (by simp)) ⟨ke rfl, ⟨_, rfl, full_le _ _⟩, ⟨_, rfl, full_le _ _⟩, trivial⟩) ?_
 refine cm rfl (Ch.nil (Fin.go (wk1 2 rfl (Tr.ret (Fin.block_ret (Fin.then_ret (Fin.ret1 rfl (OutW.bse _ _) rfl ?_)))))))
 · refine int_eq ?_; have ha : alg = 13 := (by omega); rcases ha with rfl <;> rfl
 refine Tr.seq (Tr.reg0 (co rfl (ki rfl rfl rfl rfl) (cm rfl (Ch.nil (Fin.go (wk4 1 3 7 50 rfl ?_))))))
 refine Tr.cn rfl ?_ ?_ <;> intro h19 q19
 refine Tr.seq (Tr.reg0 (cm rfl (co rfl (ok_buildSlice (xs := [.const (.int .i64 (40)), .const (.int .i64 (128))]) (rows := [[_], [_]]) rfl rfl Tryz.underlying22 sz3 z3 rfl (by decide) ⟨⟨(by exact rfl), (VL.le (vl rfl) (one_cellsP _))⟩, ⟨⟨(by exact rfl), (VL.le (vl rfl) (one_cellsP _))⟩, trivial⟩⟩ (by decide)) ?_)))
 refine co rfl (ok_buildSlice (xs := [.const (.int .i64 (40)), .const (.int .i64 (60))]) (rows := [[_], [_]]) rfl rfl Tryz.underlying22 sz3 z3 rfl (by decide) ⟨⟨(by exact rfl), (VL.le (vl rfl) (one_cellsP _))⟩, ⟨⟨(by exact rfl), (VL.le (vl rfl) (one_cellsP _))⟩, trivial⟩⟩ (by decide)) ?_
 refine co rfl (ok_call rfl (w_among (l := [40, 128]) (m := [40, 60]) (by simp)) ⟨ke rfl, ⟨_, rfl, full_le _ _⟩, ⟨_, rfl, full_le _ _⟩, trivial⟩) ?_
 refine cm rfl (Ch.nil (Fin.go (Tr.ret (Fin.block_ret (Fin.then_ret (Fin.ret1 rfl (OutW.bse _ _) rfl ?_))))))
 · refine int_eq ?_; have ha : alg = 14 := (by omega); rcases ha with rfl <;> rfl
 refine Tr.seq (Tr.reg0 (co rfl (ki rfl rfl rfl rfl) (cm rfl (Ch.nil (Fin.go ?_)))))
 refine Tr.cn rfl ?_ ?_ <;> intro h20 q20
 refine Tr.seq (Tr.reg0 (cm rfl (co rfl (ok_buildSlice (xs := [.const (.int .i64 (112)), .const (.int .i64 (168))]) (rows := [[_], [_]]) rfl rfl Tryz.underlying22 sz3 z3 rfl (by decide) ⟨⟨(by exact rfl), (VL.le (vl rfl) (one_cellsP _))⟩, ⟨⟨(by exact rfl), (VL.le (vl rfl) (one_cellsP _))⟩, trivial⟩⟩ (by decide)) ?_)))
 refine co rfl (ok_buildSlice (xs := [.const (.int .i64 (80)), .const (.int .i64 (112))]) (rows := [[_], [_]]) rfl rfl Tryz.underlying22 sz3 z3 rfl (by decide) ⟨⟨(by exact rfl), (VL.le (vl rfl) (one_cellsP _))⟩, ⟨⟨(by exact rfl), (VL.le (vl rfl) (one_cellsP _))⟩, trivial⟩⟩ (by decide)) ?_
 refine co rfl (ok_call rfl (w_among (l := [112, 168]) (m := [80, 112]) (by simp)) ⟨ke rfl, ⟨_, rfl, full_le _ _⟩, ⟨_, rfl, full_le _ _⟩, trivial⟩) ?_
 refine cm rfl (Ch.nil (Fin.go (Tr.ret (Fin.block_ret (Fin.then_ret (Fin.ret1 rfl (OutW.bse _ _) rfl ?_))))))
 · refine int_eq ?_; have ha : alg = 15 := (by omega); rcases ha with rfl <;> rfl
 refine Tr.seq (Tr.seq (Tr.reg0 (co rfl (ki rfl rfl rfl rfl) (cm rfl (Ch.nil (Fin.go ?_))))))
 refine Tr.cn rfl ?_ ?_ <;> intro h21 q21
 refine Tr.skip (Fin.go (Tr.cond rfl (fun _ => ?_) (fun h => nomatch h21.symm.trans h)))
 refine Tr.seq (Tr.reg0 (cm rfl (co rfl (ok_buildSlice (xs := [.const (.int .i64 (128)), .const (.int .i64 (256))]) (rows := [[_], [_]]) rfl rfl Tryz.underlying22 sz3 z3 rfl (by decide) ⟨⟨(by exact rfl), (VL.le (vl rfl) (one_cellsP _))⟩, ⟨⟨(by exact rfl), (VL.le (vl rfl) (one_cellsP _))⟩, trivial⟩⟩ (by decide)) ?_)))
 refine co rfl (ok_buildSlice (xs := [.const (.int .i64 (128)), .const (.int .i64 (256))]) (rows := [[_], [_]]) rfl rfl Tryz.underlying22 sz3 z3 rfl (by decide) ⟨⟨(by exact rfl), (VL.le (vl rfl) (one_cellsP _))⟩, ⟨⟨(by exact rfl), (VL.le (vl rfl) (one_cellsP _))⟩, trivial⟩⟩ (by decide)) ?_
 refine co rfl (ok_call rfl (w_among (l := [128, 256]) (m := [128, 256]) (by simp)) ⟨ke rfl, ⟨_, rfl, full_le _ _⟩, ⟨_, rfl, full_le _ _⟩, trivial⟩) ?_
 refine cm rfl (Ch.nil (Fin.go (Tr.ret (Fin.block_ret (Fin.then_ret (Fin.ret1 rfl (OutW.bse _ _) rfl ?_))))))
 · refine int_eq ?_; have ha : alg = 16 ∨ alg = 17 := (by omega); rcases ha with rfl | rfl <;> rfl
 refine Tr.reg0 (co rfl (ki rfl rfl rfl rfl) (cm rfl (Ch.nil (Fin.go ?_))))
 refine Tr.cn rfl ?_ ?_ <;> intro h22 q22
 refine Tr.seq (Tr.reg0 (cm rfl (co rfl (ok_buildSlice (xs := [.const (.int .i64 (128)), .const (.int .i64 (256))]) (rows := [[_], [_]]) rfl rfl Tryz.underlying22 sz3 z3 rfl (by decide) ⟨⟨(by exact rfl), (VL.le (vl rfl) (one_cellsP _))⟩, ⟨⟨(by exact rfl), (VL.le (vl rfl) (one_cellsP _))⟩, trivial⟩⟩ (by decide)) ?_)))
 refine co rfl (ok_buildSlice (xs := [.const (.int .i64 (128)), .const (.int .i64 (256))]) (rows := [[_], [_]]) rfl rfl Tryz.underlying22 sz3 z3 rfl (by decide) ⟨⟨(by exact rfl), (VL.le (vl rfl) (one_cellsP _))⟩, ⟨⟨(by exact rfl), (VL.le (vl rfl) (one_cellsP _))⟩, trivial⟩⟩ (by decide)) ?_
 refine co rfl (ok_call rfl (w_among (l := [128, 256]) (m := [128, 256]) (by simp)) ⟨ke rfl, ⟨_, rfl, full_le _ _⟩, ⟨_, rfl, full_le _ _⟩, trivial⟩) ?_
 refine cm rfl (Ch.nil (Fin.go (wk1 2 rfl (Tr.ret (Fin.block_ret (Fin.then_ret (Fin.ret1 rfl (OutW.bse _ _) rfl ?_)))))))
 · refine int_eq ?_; have ha : alg = 16 ∨ alg = 17 := (by omega); rcases ha with rfl | rfl <;> rfl
 refine Tr.skip (Fin.block (Fin.go (Tr.seq (Tr.reg0 (cm rfl (co rfl (ok_buildSlice (xs := [.const (.int .i64 (0))]) (rows := [[_]]) rfl rfl Tryz.underlying22 sz3 z3 rfl (by decide) ⟨⟨(by exact rfl), (VL.le (vl rfl) (one_cellsP _))⟩, trivial⟩ (by decide)) ?_))))))
 refine co rfl (kfa rfl fo24_0 rfl rfl) (co rfl (kl1 rfl one3 rfl) (co rfl (ok_call rfl (w_single) ⟨ke rfl, trivial⟩) (co rfl (ok_buildSlice (xs := [.tmp 73]) (rows := [[_]]) rfl rfl Tryz.underlying22 sz3 z3 rfl (by decide) ⟨⟨(by exact rfl), (VL.le (vl rfl) (one_cellsP _))⟩, trivial⟩ (by decide)) ?_)))
 refine co rfl (ok_call rfl (w_among (l := [0]) (m := [singleI alg]) (by simp)) ⟨ke rfl, ⟨_, rfl, full_le _ _⟩, ⟨_, rfl, full_le _ _⟩, trivial⟩) ?_
 refine cm rfl (Ch.nil (Fin.go (wk1 2 rfl (Tr.ret (Fin.ret1 rfl (OutW.bse _ _) rfl ?_)))))
 · refine int_eq ?_; exact strength_rest (by omega)
set_option maxRecDepth 20000 in
theorem w_RValid {alg bits : Int}  : Fun Tryz.prog 127 [agg [int alg, int bits]] (bool (decide (strength alg bits > 0))) := by
 refine Fun.of Tryz.func127 rfl rfl (by exact Nat.le_of_ble_eq_true rfl) fun M0 w0 => ?_
 refine Tr.seq (Tr.reg0 (co rfl (ok_box rfl (VL.le (vl rfl) (agg_cellsP _))) (cm rfl (Ch.nil (Fin.go (Tr.seq (Tr.reg0 (co rfl (ok_loadA rfl agg24 sz24 (vl rfl) rfl rfl) (co rfl (ok_call rfl (w_RStrength) ⟨ke rfl, trivial⟩) (co rfl (ki rfl rfl rfl rfl) (cm rfl (Ch.nil (Fin.go (Tr.ret ?_))))))))))))))
 refine Fin.ret1 rfl (OutW.bse _ _) rfl ?_
 · exact Pr.le_refl _
def rtab : List (List UInt8 × Int) := catTable.map fun r => (r.name, r.kind)
theorem rtab_at {alg : Int} (h : 1 ≤ alg ∧ alg ≤ 22) : rtab[alg.toNat]? = some ((catOf alg).name, (catOf alg).kind) := by
  unfold rtab; rw [List.getElem?_map, catTable_at h]; rfl

set_option maxRecDepth 20000 in
theorem w_Rrows   : Fun Tryz.prog 225 [] (slice 2 (rtab.map fun r => [str r.1, int r.2])) := by
 refine Fun.of Tryz.func225 rfl rfl (by exact Nat.le_of_ble_eq_true rfl) fun M0 w0 => ?_
 refine Tr.seq (Tr.reg0 (cm rfl (Ch.nil (Fin.go (Tr.seq (Tr.reg0 (co rfl (ok_build (rows := []) rfl bl223 zo223 trivial rfl) ?_)))))))
 iterate 22 refine co rfl (ok_build (rows := [(0, [_]), (1, [_])]) rfl bl223 zo223 ⟨⟨rfl, (VL.le (vl rfl) (one_cellsP _))⟩, ⟨⟨rfl, (VL.le (vl rfl) (one_cellsP _))⟩, trivial⟩⟩ rfl) ?_
 refine co rfl (ok_buildSlice (xs := [.tmp 1, .tmp 2, .tmp 3, .tmp 4, .tmp 5, .tmp 6, .tmp 7, .tmp 8, .tmp 9, .tmp 10, .tmp 11, .tmp 12, .tmp 13, .tmp 14, .tmp 15, .tmp 16, .tmp 17, .tmp 18, .tmp 19, .tmp 20, .tmp 21, .tmp 22, .tmp 23]) (rows := [_, _, _, _, _, _, _, _, _, _, _, _, _, _, _, _, _, _, _, _, _, _, _]) rfl rfl Tryz.underlying224 sz223 z223 rfl (by decide) ⟨⟨(by exact rfl), (VL.le (vl rfl) (agg_cellsP _))⟩, ⟨⟨(by exact rfl), (VL.le (vl rfl) (agg_cellsP _))⟩, ⟨⟨(by exact rfl), (VL.le (vl rfl) (agg_cellsP _))⟩, ⟨⟨(by exact rfl), (VL.le (vl rfl) (agg_cellsP _))⟩, ⟨⟨(by exact rfl), (VL.le (vl rfl) (agg_cellsP _))⟩, ⟨⟨(by exact rfl), (VL.le (vl rfl) (agg_cellsP _))⟩, ⟨⟨(by exact rfl), (VL.le (vl rfl) (agg_cellsP _))⟩, ⟨⟨(by exact rfl), (VL.le (vl rfl) (agg_cellsP _))⟩, ⟨⟨(by exact rfl), (VL.le (vl rfl) (agg_cellsP _))⟩, ⟨⟨(by exact rfl), (VL.le (vl rfl) (agg_cellsP _))⟩, ⟨⟨(by exact rfl), (VL.le (vl rfl) (agg_cellsP _))⟩, ⟨⟨(by exact rfl), (VL.le (vl rfl) (agg_cellsP _))⟩, ⟨⟨(by exact rfl), (VL.le (vl rfl) (agg_cellsP _))⟩, ⟨⟨(by exact rfl), (VL.le (vl rfl) (agg_cellsP _))⟩, ⟨⟨(by exact rfl), (VL.le (vl rfl) (agg_cellsP _))⟩, ⟨⟨(by exact rfl), (VL.le (vl rfl) (agg_cellsP _))⟩, ⟨⟨(by exact rfl), (VL.le (vl rfl) (agg_cellsP _))⟩, ⟨⟨(by exact rfl), (VL.le (vl rfl) (agg_cellsP _))⟩, ⟨⟨(by exact rfl), (VL.le (vl rfl) (agg_cellsP _))⟩, ⟨⟨(by exact rfl), (VL.le (vl rfl) (agg_cellsP _))⟩, ⟨⟨(by exact rfl), (VL.le (vl rfl) (agg_cellsP _))⟩, ⟨⟨(by exact rfl), (VL.le (vl rfl) (agg_cellsP _))⟩, ⟨⟨(by exact rfl), (VL.le (vl rfl) (agg_cellsP _))⟩, trivial⟩⟩⟩⟩⟩⟩⟩⟩⟩⟩⟩⟩⟩⟩⟩⟩⟩⟩⟩⟩⟩⟩⟩ (by decide)) ?_
 refine cm rfl (Ch.nil (Fin.go (wk1 0 rfl (Tr.ret (Fin.ret1 rfl (OutW.bse _ _) rfl ?_)))))
 · exact full_le _ _
set_option maxRecDepth 20000 in
theorem w_RKind {alg : Int}  : Fun Tryz.prog 189 [int alg] (int (catOf alg).kind) := by
 refine Fun.of Tryz.func189 rfl rfl (by exact Nat.le_of_ble_eq_true rfl) fun M0 w0 => ?_
 refine Tr.seq (Tr.reg0 (cm rfl (Ch.nil (Fin.go (Tr.seq (Tr.seq (Tr.reg0 (cm rfl (co rfl (ki rfl rfl rfl rfl) (cm rfl ?_))))))))))
 refine Ch.cs 5 rfl ?_ ?_ <;> intro h1 q1
 refine cnf h1 rfl (cnf h1 rfl (co rfl (kpt rfl rfl h1 rfl) (Ch.nil (Fin.go (Tr.cond rfl (fun _ => ?_) (fun h => nomatch h))))))
 refine Tr.seq (Tr.reg0 (cm rfl (Ch.nil (Fin.go (Tr.ret (Fin.then_ret (Fin.ret1 rfl (OutW.bse _ _) rfl ?_)))))))
 · refine int_eq ?_; unfold catOf; rw [if_neg (by omega)]; rfl
 refine cym h1 rfl (cy h1 rfl (ki rfl rfl rfl rfl) (co rfl (kpf rfl rfl h1 rfl) (Ch.nil (Fin.go ?_))))
 refine Tr.cn rfl ?_ ?_ <;> intro h2 q2
 refine Tr.seq (Tr.reg0 (cm rfl (Ch.nil (Fin.go (Tr.ret (Fin.then_ret (Fin.ret1 rfl (OutW.bse _ _) rfl ?_)))))))
 · refine int_eq ?_; unfold catOf; rw [if_neg (by omega)]; rfl
 have hin : 1 ≤ alg ∧ alg ≤ 22 := by omega
 refine Tr.skip (Fin.go (Tr.seq (Tr.reg0 (co rfl (ok_call rfl (w_Rrows) trivial) (cm rfl (co rfl (ok_indexAddr rfl Tryz.underlying224 sz223 (vl rfl) (vl rfl) (by omega) (row_atI (f := fun r : List UInt8 × Int => [str r.1, int r.2]) (rtab_at hin))) (co rfl (kfa rfl fo223_1 rfl rfl) (co rfl (kl1 rfl one3 rfl) (cm rfl (Ch.nil (Fin.go (Tr.ret (Fin.ret1 rfl (OutW.bse _ _) rfl ?_)))))))))))))
 · exact Pr.le_refl _
set_option maxRecDepth 20000 in
theorem w_Signature {alg bits : Int}  : Fun Tryz.prog 128 [agg [int alg, int bits]] (bool (decide (strength alg bits > 0) && (catOf alg).kind == 2)) := by
 refine Fun.of Tryz.func128 rfl rfl (by exact Nat.le_of_ble_eq_true rfl) fun M0 w0 => ?_
 refine Tr.seq (Tr.reg0 (co rfl (ok_box rfl (VL.le (vl rfl) (agg_cellsP _))) (cm rfl (Ch.nil (Fin.go (Tr.seq (Tr.reg0 (co rfl (ok_loadA rfl agg24 sz24 (vl rfl) rfl rfl) (co rfl (ok_call rfl (w_RValid) ⟨ke rfl, trivial⟩) (cm rfl ?_))))))))))
 refine Ch.cs 5 rfl ?_ ?_ <;> intro h1 q1
 refine cy h1 rfl (kfa rfl fo24_0 rfl rfl) (cy h1 rfl (kl1 rfl one3 rfl) (cy h1 rfl (ok_call rfl (w_RKind) ⟨ke rfl, trivial⟩) (cy h1 rfl (ki rfl rfl rfl rfl) (co rfl (kpt rfl rfl h1 rfl) (cm rfl (Ch.nil (Fin.go (Tr.ret (Fin.ret1 rfl (OutW.bse _ _) rfl ?_)))))))))
 · refine bool_eq ?_; simp_all
 iterate 4 refine cnt h1 rfl ?_
 refine co rfl (kpf rfl rfl h1 rfl) (cm rfl (Ch.nil (Fin.go (Tr.ret (Fin.ret1 rfl (OutW.bse _ _) rfl ?_)))))
 · refine bool_eq ?_; simp_all; omega
end Go.Proofs.YtgdlhajfajddiaaGreat
namespace Go.Proofs.YtgdlhajfajddiaaGreat
open Go Go.RowKit Cp

/-- A finding. -/
structure Fnd where
  src : Int
  host : List UInt8
  machine : Int
  day : Int
  conf : Int
  kind : Int
  subj : List UInt8
  alg : Int
  bits : Int
  num : Int
  text : List UInt8
abbrev rowF (f : Fnd) : List Pr := [int f.src, str f.host, int f.machine, int f.day, int f.conf, int f.kind, str f.subj, int f.alg, int f.bits, int f.num, str f.text]
abbrev fnds (l : List Fnd) : Pr := slice 11 (l.map rowF)
/-- Its texts are of some length. -/
structure Fnd.fits (f : Fnd) : Prop where
  host : f.host.length ≤ maxLen
  subj : f.subj.length ≤ maxLen
  text : f.text.length ≤ maxLen
def bareF (f : Fnd) : Bool := decide (f.alg = 0 ∧ f.bits = 0) && decide (f.text = [])
def contentF (f : Fnd) : Bool :=
  if f.kind = 1 ∨ f.kind = 8 then decide (strength f.alg f.bits > 0) && decide (f.num = 0) && decide (f.text = [])
  else if f.kind = 2 then bareF f && decide (0 ≤ f.num) && decide (f.num ≤ 65535)
  else if f.kind = 3 then decide (strength f.alg f.bits > 0) && (catOf f.alg).kind == 2 && decide (0 ≤ f.num) && decide (f.num ≤ 2147483648) && decide (f.text = [])
  else if f.kind = 4 ∨ f.kind = 5 then bareF f && decide (1 ≤ f.num) && decide (f.num ≤ 4)
  else if f.kind = 6 then bareF f && decide (0 ≤ f.num) && decide (f.num ≤ 2147483648)
  else if f.kind = 7 then decide (f.alg = 0 ∧ f.bits = 0) && decide (f.num = 0) && named f.text
  else false
def whereF (f : Fnd) : Bool := named f.host && named f.subj && decide (0 ≤ f.machine) && decide (f.machine ≤ 1099511627776)
def whenF (f : Fnd) : Bool := decide (0 ≤ f.day) && decide (f.day ≤ 40000) && decide (1 ≤ f.conf) && decide (f.conf ≤ 100)
def checkF (f : Fnd) : Bool := whereF f && whenF f && decide (1 ≤ f.src) && decide (f.src ≤ 7) && contentF f

set_option maxRecDepth 20000 in
theorem w_content {f : Fnd} (hf : f.fits) : Fun Tryz.prog 125 [agg (rowF f)] (bool (contentF f)) := by
 refine Fun.of Tryz.func125 rfl rfl (by exact Nat.le_of_ble_eq_true rfl) fun M0 w0 => ?_
 refine Tr.seq (Tr.reg0 (co rfl (ok_box rfl (VL.le (vl rfl) (agg_cellsP _))) (cm rfl (Ch.nil (Fin.go (wk1 1 rfl (Tr.cutk [1] [(3, bool (bareF f))] (True) ?_ (fun h1 => ?_))))))))
 refine Tr.reg0 (co rfl (kfa rfl fo26_7 rfl rfl) (co rfl (ok_loadA rfl agg24 sz24 (vl rfl) rfl rfl) (co rfl (ok_build (rows := []) rfl bl24 zo24 trivial rfl) (co rfl (ok_eq24 rfl (vl rfl) (vl rfl)) (cm rfl ?_)))))
 refine Ch.cs 8 rfl ?_ ?_ <;> intro h2 q2
 refine cy h2 rfl (kfa rfl fo26_9 rfl rfl) (cy h2 rfl (kl1 rfl one9 rfl) (cy h2 rfl (ok_eqs rfl (vl rfl) (vl rfl)) (co rfl (kpt rfl rfl h2 rfl) (cm rfl (Ch.nil (Fin.fam_same () (by simp_all) ⟨⟨_, rfl, bool_eq (by simp_all [bareF])⟩, ke rfl, trivial⟩))))))
 refine cnt h2 rfl (cnt h2 rfl (cnt h2 rfl (co rfl (kpf rfl rfl h2 rfl) (cm rfl (Ch.nil (Fin.fam_same () (by simp_all) ⟨⟨_, rfl, bool_eq (by simp_all [bareF])⟩, ke rfl, trivial⟩))))))
 refine Tr.seq (Tr.seq (Tr.reg0 (co rfl (kfa rfl fo26_5 rfl rfl) (co rfl (kl1 rfl one3 rfl) (Ch.nil (Fin.go (Tr.block (Tr.seq (Tr.seq (Tr.reg0 (co rfl (ki rfl rfl rfl rfl) (cm rfl (Ch.nil (Fin.go ?_))))))))))))))
 refine Tr.cn rfl ?_ ?_ <;> intro h3 q3
 refine Tr.skip (Fin.go (Tr.cond rfl (fun _ => ?_) (fun h => nomatch h3.symm.trans h)))
 refine Tr.seq (Tr.reg0 (co rfl (kfa rfl fo26_7 rfl rfl) (co rfl (ok_loadA rfl agg24 sz24 (vl rfl) rfl rfl) (co rfl (ok_call rfl (w_Valid) ⟨ke rfl, trivial⟩) (cm rfl ?_)))))
 refine Ch.cs 21 rfl ?_ ?_ <;> intro h4 q4
 refine cy h4 rfl (kfa rfl fo26_8 rfl rfl) (cy h4 rfl (kl1 rfl one3 rfl) (cy h4 rfl (ki rfl rfl rfl rfl) (co rfl (kpt rfl rfl h4 rfl) (cm rfl ?_))))
 refine Ch.cs 26 rfl ?_ ?_ <;> intro h5 q5
 refine cy h5 rfl (kfa rfl fo26_9 rfl rfl) (cy h5 rfl (kl1 rfl one9 rfl) (cy h5 rfl (ok_eqs rfl (vl rfl) (vl rfl)) (co rfl (kpt rfl rfl h5 rfl) (cm rfl (Ch.nil (Fin.go (wk1 2 rfl (Tr.ret (Fin.block_ret (Fin.then_ret (Fin.ret1 rfl (OutW.bse _ _) rfl ?_)))))))))))
 · refine bool_eq ?_; unfold contentF; simp_all
 refine cnt h5 rfl (cnt h5 rfl (cnt h5 rfl (co rfl (kpf rfl rfl h5 rfl) (cm rfl (Ch.nil (Fin.go (wk1 2 rfl (Tr.ret (Fin.block_ret (Fin.then_ret (Fin.ret1 rfl (OutW.bse _ _) rfl ?_)))))))))))
 · refine bool_eq ?_; unfold contentF; simp_all
 refine cnt h4 rfl (cnt h4 rfl (cnt h4 rfl (co rfl (kpf rfl rfl h4 rfl) (cm rfl (cnd rfl rfl (cnd rfl rfl (cnd rfl rfl (co rfl (kpf rfl rfl rfl rfl) (cm rfl (Ch.nil (Fin.go (wk1 2 rfl (Tr.ret (Fin.block_ret ?_))))))))))))))
 refine Fin.then_ret (Fin.ret1 rfl (OutW.bse _ _) rfl ?_)
 · refine bool_eq ?_; unfold contentF; simp_all; omega
 refine Tr.reg0 (co rfl (ki rfl rfl rfl rfl) (cm rfl (Ch.nil (Fin.go ?_))))
 refine Tr.cn rfl ?_ ?_ <;> intro h6 q6
 refine Tr.seq (Tr.reg0 (co rfl (kfa rfl fo26_7 rfl rfl) (co rfl (ok_loadA rfl agg24 sz24 (vl rfl) rfl rfl) (co rfl (ok_call rfl (w_Valid) ⟨ke rfl, trivial⟩) (cm rfl ?_)))))
 refine Ch.cs 21 rfl ?_ ?_ <;> intro h7 q7
 refine cy h7 rfl (kfa rfl fo26_8 rfl rfl) (cy h7 rfl (kl1 rfl one3 rfl) (cy h7 rfl (ki rfl rfl rfl rfl) (co rfl (kpt rfl rfl h7 rfl) (cm rfl ?_))))
 refine Ch.cs 26 rfl ?_ ?_ <;> intro h8 q8
 refine cy h8 rfl (kfa rfl fo26_9 rfl rfl) (cy h8 rfl (kl1 rfl one9 rfl) (cy h8 rfl (ok_eqs rfl (vl rfl) (vl rfl)) (co rfl (kpt rfl rfl h8 rfl) (cm rfl (Ch.nil (Fin.go (wk1 2 rfl (Tr.ret (Fin.block_ret (Fin.then_ret (Fin.ret1 rfl (OutW.bse _ _) rfl ?_)))))))))))
 · refine bool_eq ?_; unfold contentF; simp_all
 refine cnt h8 rfl (cnt h8 rfl (cnt h8 rfl (co rfl (kpf rfl rfl h8 rfl) (cm rfl (Ch.nil (Fin.go (wk1 2 rfl (Tr.ret (Fin.block_ret (Fin.then_ret (Fin.ret1 rfl (OutW.bse _ _) rfl ?_)))))))))))
 · refine bool_eq ?_; unfold contentF; simp_all
 refine cnt h7 rfl (cnt h7 rfl (cnt h7 rfl (co rfl (kpf rfl rfl h7 rfl) (cm rfl (cnd rfl rfl (cnd rfl rfl (cnd rfl rfl (co rfl (kpf rfl rfl rfl rfl) (cm rfl (Ch.nil (Fin.go (wk1 2 rfl (Tr.ret (Fin.block_ret ?_))))))))))))))
 refine Fin.then_ret (Fin.ret1 rfl (OutW.bse _ _) rfl ?_)
 · refine bool_eq ?_; unfold contentF; simp_all; omega
 refine Tr.seq (Tr.reg0 (co rfl (ki rfl rfl rfl rfl) (cm rfl (Ch.nil (Fin.go ?_)))))
 refine Tr.cn rfl ?_ ?_ <;> intro h9 q9
 refine Tr.seq (Tr.reg0 (cm rfl (cm rfl ?_)))
 refine Ch.cs 34 rfl ?_ ?_ <;> intro h10 q10
 refine cy h10 rfl (kfa rfl fo26_8 rfl rfl) (cy h10 rfl (kl1 rfl one3 rfl) (cy h10 rfl (ki rfl rfl rfl rfl) (co rfl (kpt rfl rfl h10 rfl) (cm rfl ?_))))
 refine Ch.cs 39 rfl ?_ ?_ <;> intro h11 q11
 refine cy h11 rfl (kfa rfl fo26_8 rfl rfl) (cy h11 rfl (kl1 rfl one3 rfl) (cy h11 rfl (ki rfl rfl rfl rfl) (co rfl (kpt rfl rfl h11 rfl) (cm rfl (Ch.nil (Fin.go (wk1 2 rfl (Tr.ret (Fin.block_ret (Fin.then_ret (Fin.ret1 rfl (OutW.bse _ _) rfl ?_)))))))))))
 · refine bool_eq ?_; unfold contentF; simp_all
 refine cnt h11 rfl (cnt h11 rfl (cnt h11 rfl (co rfl (kpf rfl rfl h11 rfl) (cm rfl (Ch.nil (Fin.go (wk1 2 rfl (Tr.ret (Fin.block_ret (Fin.then_ret (Fin.ret1 rfl (OutW.bse _ _) rfl ?_)))))))))))
 · refine bool_eq ?_; unfold contentF; simp_all; omega
 refine cnt h10 rfl (cnt h10 rfl (cnt h10 rfl (co rfl (kpf rfl rfl h10 rfl) (cm rfl (cnd rfl rfl (cnd rfl rfl (cnd rfl rfl (co rfl (kpf rfl rfl rfl rfl) (cm rfl (Ch.nil (Fin.go (wk1 2 rfl (Tr.ret (Fin.block_ret ?_))))))))))))))
 refine Fin.then_ret (Fin.ret1 rfl (OutW.bse _ _) rfl ?_)
 · refine bool_eq ?_; unfold contentF; simp_all
 refine Tr.seq (Tr.reg0 (co rfl (ki rfl rfl rfl rfl) (cm rfl (Ch.nil (Fin.go ?_)))))
 refine Tr.cn rfl ?_ ?_ <;> intro h12 q12
 refine Tr.seq (Tr.reg0 (co rfl (kfa rfl fo26_7 rfl rfl) (co rfl (ok_loadA rfl agg24 sz24 (vl rfl) rfl rfl) (co rfl (ok_call rfl (w_Valid) ⟨ke rfl, trivial⟩) (cm rfl ?_)))))
 refine Ch.cs 49 rfl ?_ ?_ <;> intro h13 q13
 refine cy h13 rfl (kfa rfl fo26_7 rfl rfl) (cy h13 rfl (kfa rfl fo24_0 rfl rfl) (cy h13 rfl (kl1 rfl one3 rfl) (cy h13 rfl (ok_call rfl (w_Kind) ⟨ke rfl, trivial⟩) (cy h13 rfl (ki rfl rfl rfl rfl) (co rfl (kpt rfl rfl h13 rfl) (cm rfl ?_))))))
 refine Ch.cs 56 rfl ?_ ?_ <;> intro h14 q14
 refine cy h14 rfl (kfa rfl fo26_8 rfl rfl) (cy h14 rfl (kl1 rfl one3 rfl) (cy h14 rfl (ki rfl rfl rfl rfl) (co rfl (kpt rfl rfl h14 rfl) (cm rfl ?_))))
 refine Ch.cs 61 rfl ?_ ?_ <;> intro h15 q15
 refine cy h15 rfl (kfa rfl fo26_8 rfl rfl) (cy h15 rfl (kl1 rfl one3 rfl) (cy h15 rfl (ki rfl rfl rfl rfl) (co rfl (kpt rfl rfl h15 rfl) (cm rfl ?_))))
 refine Ch.cs 66 rfl ?_ ?_ <;> intro h16 q16
 refine cy h16 rfl (kfa rfl fo26_9 rfl rfl) (cy h16 rfl (kl1 rfl one9 rfl) (cy h16 rfl (ok_eqs rfl (vl rfl) (vl rfl)) (co rfl (kpt rfl rfl h16 rfl) (cm rfl (Ch.nil (Fin.go (wk1 2 rfl (Tr.ret (Fin.block_ret (Fin.then_ret (Fin.ret1 rfl (OutW.bse _ _) rfl ?_)))))))))))
 · refine bool_eq ?_; unfold contentF; simp_all
 refine cnt h16 rfl (cnt h16 rfl (cnt h16 rfl (co rfl (kpf rfl rfl h16 rfl) (cm rfl (Ch.nil (Fin.go (wk1 2 rfl (Tr.ret (Fin.block_ret (Fin.then_ret (Fin.ret1 rfl (OutW.bse _ _) rfl ?_)))))))))))
 · refine bool_eq ?_; unfold contentF; simp_all; omega
 refine cnt h15 rfl (cnt h15 rfl (cnt h15 rfl (co rfl (kpf rfl rfl h15 rfl) (cm rfl (cnd rfl rfl (cnd rfl rfl (cnd rfl rfl (co rfl (kpf rfl rfl rfl rfl) (cm rfl (Ch.nil (Fin.go (wk1 2 rfl (Tr.ret (Fin.block_ret ?_))))))))))))))
 refine Fin.then_ret (Fin.ret1 rfl (OutW.bse _ _) rfl ?_)
 · refine bool_eq ?_; unfold contentF; simp_all; omega
 refine cnt h14 rfl (cnt h14 rfl (cnt h14 rfl (co rfl (kpf rfl rfl h14 rfl) (cm rfl (cnd rfl rfl (cnd rfl rfl (cnd rfl rfl (co rfl (kpf rfl rfl rfl rfl) (cm rfl (cnd rfl rfl (cnd rfl rfl (cnd rfl rfl (co rfl (kpf rfl rfl rfl rfl) ?_)))))))))))))
 refine cm rfl (Ch.nil (Fin.go (wk1 2 rfl (Tr.ret (Fin.block_ret (Fin.then_ret (Fin.ret1 rfl (OutW.bse _ _) rfl ?_)))))))
 · refine bool_eq ?_; unfold contentF; simp_all
 iterate 5 refine cnt h13 rfl ?_
 refine co rfl (kpf rfl rfl h13 rfl) (cm rfl (cnd rfl rfl (cnd rfl rfl (cnd rfl rfl (co rfl (kpf rfl rfl rfl rfl) (cm rfl (cnd rfl rfl (cnd rfl rfl (cnd rfl rfl (co rfl (kpf rfl rfl rfl rfl) (cm rfl (cnd rfl rfl (cnd rfl rfl ?_)))))))))))))
 refine cnd rfl rfl (co rfl (kpf rfl rfl rfl rfl) (cm rfl (Ch.nil (Fin.go (wk1 2 rfl (Tr.ret (Fin.block_ret (Fin.then_ret (Fin.ret1 rfl (OutW.bse _ _) rfl ?_)))))))))
 · refine bool_eq ?_; unfold contentF; simp_all; omega
 refine Tr.seq (Tr.seq (Tr.reg0 (co rfl (ki rfl rfl rfl rfl) (cm rfl (Ch.nil (Fin.go (wk4 1 3 14 71 rfl ?_)))))))
 refine Tr.cn rfl ?_ ?_ <;> intro h17 q17
 refine Tr.skip (Fin.go (Tr.cond rfl (fun _ => ?_) (fun h => nomatch h17.symm.trans h)))
 refine Tr.seq (Tr.reg0 (cm rfl (cm rfl ?_)))
 refine Ch.cs 75 rfl ?_ ?_ <;> intro h18 q18
 refine cy h18 rfl (kfa rfl fo26_8 rfl rfl) (cy h18 rfl (kl1 rfl one3 rfl) (cy h18 rfl (ki rfl rfl rfl rfl) (co rfl (kpt rfl rfl h18 rfl) (cm rfl ?_))))
 refine Ch.cs 80 rfl ?_ ?_ <;> intro h19 q19
 refine cy h19 rfl (kfa rfl fo26_8 rfl rfl) (cy h19 rfl (kl1 rfl one3 rfl) (cy h19 rfl (ki rfl rfl rfl rfl) (co rfl (kpt rfl rfl h19 rfl) (cm rfl (Ch.nil (Fin.go (wk1 2 rfl (Tr.ret (Fin.block_ret (Fin.then_ret (Fin.ret1 rfl (OutW.bse _ _) rfl ?_)))))))))))
 · refine bool_eq ?_; unfold contentF; simp_all
 refine cnt h19 rfl (cnt h19 rfl (cnt h19 rfl (co rfl (kpf rfl rfl h19 rfl) (cm rfl (Ch.nil (Fin.go (wk1 2 rfl (Tr.ret (Fin.block_ret (Fin.then_ret (Fin.ret1 rfl (OutW.bse _ _) rfl ?_)))))))))))
 · refine bool_eq ?_; unfold contentF; simp_all; omega
 refine cnt h18 rfl (cnt h18 rfl (cnt h18 rfl (co rfl (kpf rfl rfl h18 rfl) (cm rfl (cnd rfl rfl (cnd rfl rfl (cnd rfl rfl (co rfl (kpf rfl rfl rfl rfl) (cm rfl (Ch.nil (Fin.go (wk1 2 rfl (Tr.ret (Fin.block_ret ?_))))))))))))))
 refine Fin.then_ret (Fin.ret1 rfl (OutW.bse _ _) rfl ?_)
 · refine bool_eq ?_; unfold contentF; simp_all
 refine Tr.reg0 (co rfl (ki rfl rfl rfl rfl) (cm rfl (Ch.nil (Fin.go ?_))))
 refine Tr.cn rfl ?_ ?_ <;> intro h20 q20
 refine Tr.seq (Tr.reg0 (cm rfl (cm rfl ?_)))
 refine Ch.cs 75 rfl ?_ ?_ <;> intro h21 q21
 refine cy h21 rfl (kfa rfl fo26_8 rfl rfl) (cy h21 rfl (kl1 rfl one3 rfl) (cy h21 rfl (ki rfl rfl rfl rfl) (co rfl (kpt rfl rfl h21 rfl) (cm rfl ?_))))
 refine Ch.cs 80 rfl ?_ ?_ <;> intro h22 q22
 refine cy h22 rfl (kfa rfl fo26_8 rfl rfl) (cy h22 rfl (kl1 rfl one3 rfl) (cy h22 rfl (ki rfl rfl rfl rfl) (co rfl (kpt rfl rfl h22 rfl) (cm rfl (Ch.nil (Fin.go (wk1 2 rfl (Tr.ret (Fin.block_ret (Fin.then_ret (Fin.ret1 rfl (OutW.bse _ _) rfl ?_)))))))))))
 · refine bool_eq ?_; unfold contentF; simp_all
 refine cnt h22 rfl (cnt h22 rfl (cnt h22 rfl (co rfl (kpf rfl rfl h22 rfl) (cm rfl (Ch.nil (Fin.go (wk1 2 rfl (Tr.ret (Fin.block_ret (Fin.then_ret (Fin.ret1 rfl (OutW.bse _ _) rfl ?_)))))))))))
 · refine bool_eq ?_; unfold contentF; simp_all; omega
 refine cnt h21 rfl (cnt h21 rfl (cnt h21 rfl (co rfl (kpf rfl rfl h21 rfl) (cm rfl (cnd rfl rfl (cnd rfl rfl (cnd rfl rfl (co rfl (kpf rfl rfl rfl rfl) (cm rfl (Ch.nil (Fin.go (wk1 2 rfl (Tr.ret (Fin.block_ret ?_))))))))))))))
 refine Fin.then_ret (Fin.ret1 rfl (OutW.bse _ _) rfl ?_)
 · refine bool_eq ?_; unfold contentF; simp_all
 refine Tr.seq (Tr.reg0 (co rfl (ki rfl rfl rfl rfl) (cm rfl (Ch.nil (Fin.go ?_)))))
 refine Tr.cn rfl ?_ ?_ <;> intro h23 q23
 refine Tr.seq (Tr.reg0 (cm rfl (cm rfl ?_)))
 refine Ch.cs 88 rfl ?_ ?_ <;> intro h24 q24
 refine cy h24 rfl (kfa rfl fo26_8 rfl rfl) (cy h24 rfl (kl1 rfl one3 rfl) (cy h24 rfl (ki rfl rfl rfl rfl) (co rfl (kpt rfl rfl h24 rfl) (cm rfl ?_))))
 refine Ch.cs 93 rfl ?_ ?_ <;> intro h25 q25
 refine cy h25 rfl (kfa rfl fo26_8 rfl rfl) (cy h25 rfl (kl1 rfl one3 rfl) (cy h25 rfl (ki rfl rfl rfl rfl) (co rfl (kpt rfl rfl h25 rfl) (cm rfl (Ch.nil (Fin.go (wk1 2 rfl (Tr.ret (Fin.block_ret (Fin.then_ret (Fin.ret1 rfl (OutW.bse _ _) rfl ?_)))))))))))
 · refine bool_eq ?_; unfold contentF; simp_all
 refine cnt h25 rfl (cnt h25 rfl (cnt h25 rfl (co rfl (kpf rfl rfl h25 rfl) (cm rfl (Ch.nil (Fin.go (wk1 2 rfl (Tr.ret (Fin.block_ret (Fin.then_ret (Fin.ret1 rfl (OutW.bse _ _) rfl ?_)))))))))))
 · refine bool_eq ?_; unfold contentF; simp_all; omega
 refine cnt h24 rfl (cnt h24 rfl (cnt h24 rfl (co rfl (kpf rfl rfl h24 rfl) (cm rfl (cnd rfl rfl (cnd rfl rfl (cnd rfl rfl (co rfl (kpf rfl rfl rfl rfl) (cm rfl (Ch.nil (Fin.go (wk1 2 rfl (Tr.ret (Fin.block_ret ?_))))))))))))))
 refine Fin.then_ret (Fin.ret1 rfl (OutW.bse _ _) rfl ?_)
 · refine bool_eq ?_; unfold contentF; simp_all
 refine Tr.seq (Tr.reg0 (co rfl (ki rfl rfl rfl rfl) (cm rfl (Ch.nil (Fin.go ?_)))))
 refine Tr.cn rfl ?_ ?_ <;> intro h26 q26
 refine Tr.seq (Tr.reg0 (co rfl (kfa rfl fo26_7 rfl rfl) (co rfl (ok_loadA rfl agg24 sz24 (vl rfl) rfl rfl) (co rfl (ok_build (rows := []) rfl bl24 zo24 trivial rfl) (co rfl (ok_eq24 rfl (vl rfl) (vl rfl)) (cm rfl ?_))))))
 refine Ch.cs 104 rfl ?_ ?_ <;> intro h27 q27
 refine cy h27 rfl (kfa rfl fo26_8 rfl rfl) (cy h27 rfl (kl1 rfl one3 rfl) (cy h27 rfl (ki rfl rfl rfl rfl) (co rfl (kpt rfl rfl h27 rfl) (cm rfl ?_))))
 refine Ch.cs 109 rfl ?_ ?_ <;> intro h28 q28
 refine cy h28 rfl (kfa rfl fo26_9 rfl rfl) (cy h28 rfl (kl1 rfl one9 rfl) (cy h28 rfl (ok_call rfl (w_Named hf.text) ⟨ke rfl, trivial⟩) (co rfl (kpt rfl rfl h28 rfl) (cm rfl (Ch.nil (Fin.go (wk1 2 rfl (Tr.ret (Fin.block_ret (Fin.then_ret (Fin.ret1 rfl (OutW.bse _ _) rfl ?_)))))))))))
 · refine bool_eq ?_; unfold contentF; simp_all
 refine cnt h28 rfl (cnt h28 rfl (cnt h28 rfl (co rfl (kpf rfl rfl h28 rfl) (cm rfl (Ch.nil (Fin.go (wk1 2 rfl (Tr.ret (Fin.block_ret (Fin.then_ret (Fin.ret1 rfl (OutW.bse _ _) rfl ?_)))))))))))
 · refine bool_eq ?_; unfold contentF; simp_all
 refine cnt h27 rfl (cnt h27 rfl (cnt h27 rfl (co rfl (kpf rfl rfl h27 rfl) (cm rfl (cnd rfl rfl (cnd rfl rfl (cnd rfl rfl (co rfl (kpf rfl rfl rfl rfl) (cm rfl (Ch.nil (Fin.go (wk1 2 rfl (Tr.ret (Fin.block_ret ?_))))))))))))))
 refine Fin.then_ret (Fin.ret1 rfl (OutW.bse _ _) rfl ?_)
 · refine bool_eq ?_; unfold contentF; simp_all
 refine Tr.skip (Fin.block (Fin.go (Tr.seq (Tr.reg0 (cm rfl (Ch.nil (Fin.go (Tr.ret (Fin.ret1 rfl (OutW.bse _ _) rfl ?_)))))))))
 · refine bool_eq ?_; unfold contentF; simp_all
set_option maxRecDepth 20000 in
theorem w_FCheck {f : Fnd} (hf : f.fits) : Fun Tryz.prog 75 [agg (rowF f)] (int (if checkF f then 0 else 24)) := by
 refine Fun.of Tryz.func75 rfl rfl (by exact Nat.le_of_ble_eq_true rfl) fun M0 w0 => ?_
 refine Tr.seq (Tr.reg0 (co rfl (ok_box rfl (VL.le (vl rfl) (agg_cellsP _))) (cm rfl (Ch.nil (Fin.go (wk1 1 rfl (Tr.cutk [1] [(3, bool (whereF f))] (True) ?_ (fun h1 => ?_))))))))
 refine Tr.reg0 (co rfl (kfa rfl fo26_1 rfl rfl) (co rfl (kl1 rfl one9 rfl) (co rfl (ok_call rfl (w_Named hf.host) ⟨ke rfl, trivial⟩) (cm rfl ?_))))
 refine Ch.cs 8 rfl ?_ ?_ <;> intro h2 q2
 refine cy h2 rfl (kfa rfl fo26_6 rfl rfl) (cy h2 rfl (kl1 rfl one9 rfl) (cy h2 rfl (ok_call rfl (w_Named hf.subj) ⟨ke rfl, trivial⟩) (co rfl (kpt rfl rfl h2 rfl) (cm rfl ?_))))
 refine Ch.cs 13 rfl ?_ ?_ <;> intro h3 q3
 refine cy h3 rfl (kfa rfl fo26_2 rfl rfl) (cy h3 rfl (kl1 rfl one3 rfl) (cy h3 rfl (ki rfl rfl rfl rfl) (co rfl (kpt rfl rfl h3 rfl) (cm rfl ?_))))
 refine Ch.cs 18 rfl ?_ ?_ <;> intro h4 q4
 refine cy h4 rfl (kfa rfl fo26_2 rfl rfl) (cy h4 rfl (kl1 rfl one3 rfl) (cy h4 rfl (ki rfl rfl rfl rfl) (co rfl (kpt rfl rfl h4 rfl) (cm rfl (Ch.nil (Fin.fam_same () (by simp_all) ⟨⟨_, rfl, bool_eq (by simp_all [whereF])⟩, ke rfl, trivial⟩))))))
 refine cnt h4 rfl (cnt h4 rfl (cnt h4 rfl (co rfl (kpf rfl rfl h4 rfl) (cm rfl (Ch.nil ?_)))))
 exact Fin.fam_same () (by simp_all) ⟨⟨_, rfl, bool_eq (by simp_all [whereF]; omega)⟩, ke rfl, trivial⟩
 refine cnt h3 rfl (cnt h3 rfl (cnt h3 rfl (co rfl (kpf rfl rfl h3 rfl) (cm rfl (cnd rfl rfl (cnd rfl rfl (cnd rfl rfl (co rfl (kpf rfl rfl rfl rfl) (cm rfl (Ch.nil (Fin.fam_same () (by simp_all) ⟨⟨_, rfl, bool_eq (by simp_all [whereF])⟩, ke rfl, trivial⟩)))))))))))
 refine cnt h2 rfl (cnt h2 rfl (cnt h2 rfl (co rfl (kpf rfl rfl h2 rfl) (cm rfl (cnd rfl rfl (cnd rfl rfl (cnd rfl rfl (co rfl (kpf rfl rfl rfl rfl) (cm rfl (cnd rfl rfl (cnd rfl rfl (cnd rfl rfl (co rfl (kpf rfl rfl rfl rfl) ?_)))))))))))))
 refine cm rfl (Ch.nil (Fin.fam_same () (by simp_all) ⟨⟨_, rfl, bool_eq (by simp_all [whereF])⟩, ke rfl, trivial⟩))
 refine wk2 1 3 rfl (Tr.cutk [1, 3] [(4, bool (whenF f))] (True) ?_ (fun h5 => ?_))
 refine Tr.reg0 (co rfl (kfa rfl fo26_3 rfl rfl) (co rfl (kl1 rfl one3 rfl) (co rfl (ki rfl rfl rfl rfl) (cm rfl ?_))))
 refine Ch.cs 26 rfl ?_ ?_ <;> intro h6 q6
 refine cy h6 rfl (kfa rfl fo26_3 rfl rfl) (cy h6 rfl (kl1 rfl one3 rfl) (cy h6 rfl (ki rfl rfl rfl rfl) (co rfl (kpt rfl rfl h6 rfl) (cm rfl ?_))))
 refine Ch.cs 31 rfl ?_ ?_ <;> intro h7 q7
 refine cy h7 rfl (kfa rfl fo26_4 rfl rfl) (cy h7 rfl (kl1 rfl one3 rfl) (cy h7 rfl (ki rfl rfl rfl rfl) (co rfl (kpt rfl rfl h7 rfl) (cm rfl ?_))))
 refine Ch.cs 36 rfl ?_ ?_ <;> intro h8 q8
 refine cy h8 rfl (kfa rfl fo26_4 rfl rfl) (cy h8 rfl (kl1 rfl one3 rfl) (cy h8 rfl (ki rfl rfl rfl rfl) (co rfl (kpt rfl rfl h8 rfl) (cm rfl (Ch.nil (Fin.fam_same () (by simp_all) ⟨⟨_, rfl, bool_eq (by simp_all [whenF])⟩, ke rfl, ke rfl, trivial⟩))))))
 refine cnt h8 rfl (cnt h8 rfl (cnt h8 rfl (co rfl (kpf rfl rfl h8 rfl) (cm rfl (Ch.nil ?_)))))
 exact Fin.fam_same () (by simp_all) ⟨⟨_, rfl, bool_eq (by simp_all [whenF]; omega)⟩, ke rfl, ke rfl, trivial⟩
 refine cnt h7 rfl (cnt h7 rfl (cnt h7 rfl (co rfl (kpf rfl rfl h7 rfl) (cm rfl (cnd rfl rfl (cnd rfl rfl (cnd rfl rfl (co rfl (kpf rfl rfl rfl rfl) (cm rfl (Ch.nil ?_))))))))))
 exact Fin.fam_same () (by simp_all) ⟨⟨_, rfl, bool_eq (by simp_all [whenF]; omega)⟩, ke rfl, ke rfl, trivial⟩
 refine cnt h6 rfl (cnt h6 rfl (cnt h6 rfl (co rfl (kpf rfl rfl h6 rfl) (cm rfl (cnd rfl rfl (cnd rfl rfl (cnd rfl rfl (co rfl (kpf rfl rfl rfl rfl) (cm rfl (cnd rfl rfl (cnd rfl rfl (cnd rfl rfl (co rfl (kpf rfl rfl rfl rfl) ?_)))))))))))))
 refine cm rfl (Ch.nil ?_)
 exact Fin.fam_same () (by simp_all) ⟨⟨_, rfl, bool_eq (by simp_all [whenF]; omega)⟩, ke rfl, ke rfl, trivial⟩
 refine Tr.seq (Tr.seq (Tr.reg0 (cm rfl (co rfl (ok_not rfl (vl rfl)) (cm rfl ?_)))))
 refine Ch.cs 43 rfl ?_ ?_ <;> intro h9 q9
 refine cnf h9 rfl (cnf h9 rfl (co rfl (kpt rfl rfl h9 rfl) (cm rfl (cnd rfl rfl (cnd rfl rfl (cnd rfl rfl (co rfl (kpt rfl rfl rfl rfl) (cm rfl (cnd rfl rfl (cnd rfl rfl (cnd rfl rfl (co rfl (kpt rfl rfl rfl rfl) (cm rfl ?_)))))))))))))
 refine cnd rfl rfl (cnd rfl rfl (cnd rfl rfl (co rfl (kpt rfl rfl rfl rfl) (Ch.nil (Fin.go (wk1 61 rfl (Tr.cond rfl (fun _ => ?_) (fun h => nomatch h))))))))
 refine Tr.seq (Tr.reg0 (cm rfl (Ch.nil (Fin.go (Tr.ret (Fin.then_ret (Fin.ret1 rfl (OutW.bse _ _) rfl ?_)))))))
 · refine int_eq ?_; unfold checkF; simp_all
 refine cym h9 rfl (cy h9 rfl (ok_not rfl (vl rfl)) (co rfl (kpf rfl rfl h9 rfl) (cm rfl ?_)))
 refine Ch.cs 47 rfl ?_ ?_ <;> intro h10 q10
 refine cnf h10 rfl (cnf h10 rfl (cnf h10 rfl (co rfl (kpt rfl rfl h10 rfl) (cm rfl (cnd rfl rfl (cnd rfl rfl (cnd rfl rfl (co rfl (kpt rfl rfl rfl rfl) (cm rfl (cnd rfl rfl (cnd rfl rfl (cnd rfl rfl (co rfl (kpt rfl rfl rfl rfl) ?_)))))))))))))
 refine Ch.nil (Fin.go (wk1 61 rfl (Tr.cond rfl (fun _ => ?_) (fun h => nomatch h))))
 refine Tr.seq (Tr.reg0 (cm rfl (Ch.nil (Fin.go (Tr.ret (Fin.then_ret (Fin.ret1 rfl (OutW.bse _ _) rfl ?_)))))))
 · refine int_eq ?_; unfold checkF; simp_all
 refine cy h10 rfl (kfa rfl fo26_0 rfl rfl) (cy h10 rfl (kl1 rfl one3 rfl) (cy h10 rfl (ki rfl rfl rfl rfl) (co rfl (kpf rfl rfl h10 rfl) (cm rfl ?_))))
 refine Ch.cs 52 rfl ?_ ?_ <;> intro h11 q11
 refine cnf h11 rfl (cnf h11 rfl (cnf h11 rfl (co rfl (kpt rfl rfl h11 rfl) (cm rfl (cnd rfl rfl (cnd rfl rfl (cnd rfl rfl (co rfl (kpt rfl rfl rfl rfl) (Ch.nil (Fin.go (wk1 61 rfl (Tr.cond rfl (fun _ => ?_) (fun h => nomatch h)))))))))))))
 refine Tr.seq (Tr.reg0 (cm rfl (Ch.nil (Fin.go (Tr.ret (Fin.then_ret (Fin.ret1 rfl (OutW.bse _ _) rfl ?_)))))))
 · refine int_eq ?_; unfold checkF; simp_all; omega
 refine cy h11 rfl (kfa rfl fo26_0 rfl rfl) (cy h11 rfl (kl1 rfl one3 rfl) (cy h11 rfl (ki rfl rfl rfl rfl) (co rfl (kpf rfl rfl h11 rfl) (cm rfl ?_))))
 refine Ch.cs 57 rfl ?_ ?_ <;> intro h12 q12
 refine cnf h12 rfl (cnf h12 rfl (cnf h12 rfl (co rfl (kpt rfl rfl h12 rfl) (Ch.nil (Fin.go (wk1 61 rfl (Tr.cond rfl (fun _ => ?_) (fun h => nomatch h))))))))
 refine Tr.seq (Tr.reg0 (cm rfl (Ch.nil (Fin.go (Tr.ret (Fin.then_ret (Fin.ret1 rfl (OutW.bse _ _) rfl ?_)))))))
 · refine int_eq ?_; unfold checkF; simp_all; omega
 refine cy h12 rfl (ok_loadA rfl agg26 sz26 (vl rfl) rfl rfl) (cy h12 rfl (ok_call rfl (w_content (by assumption)) ⟨ke rfl, trivial⟩) (cy h12 rfl (ok_not rfl (vl rfl)) (co rfl (kpf rfl rfl h12 rfl) (Ch.nil (Fin.go (wk1 61 rfl ?_))))))
 refine Tr.cn rfl ?_ ?_ <;> intro h13 q13
 refine Tr.seq (Tr.reg0 (cm rfl (Ch.nil (Fin.go (Tr.ret (Fin.then_ret (Fin.ret1 rfl (OutW.bse _ _) rfl ?_)))))))
 · refine int_eq ?_; unfold checkF; simp_all
 refine Tr.skip (Fin.go (Tr.seq (Tr.reg0 (cm rfl (Ch.nil (Fin.go (Tr.ret (Fin.ret1 rfl (OutW.bse _ _) rfl ?_))))))))
 · refine int_eq ?_; unfold checkF; simp_all
end Go.Proofs.YtgdlhajfajddiaaGreat
namespace Go.Proofs.YtgdlhajfajddiaaGreat
open Go Go.RowKit Cp
set_option maxRecDepth 20000 in
theorem w_R14Check {f : Fnd}  : Fun Tryz.prog 77 [agg (rowF f)] (int (if checkF f then 0 else 24)) := by
 refine Fun.of Tryz.func77 rfl rfl (by exact Nat.le_of_ble_eq_true rfl) fun M0 w0 => ?_
 refine Tr.seq (Tr.reg0 (co rfl (ok_box rfl (VL.le (vl rfl) (agg_cellsP _))) (cm rfl (Ch.nil (Fin.go (Tr.seq (Tr.seq (Tr.reg0 (co rfl (kfa rfl fo26_0 rfl rfl) (co rfl (kl1 rfl one3 rfl) (co rfl (ki rfl rfl rfl rfl) (cm rfl ?_))))))))))))
 refine Ch.cs 10 rfl ?_ ?_ <;> intro h1 q1
 refine cnf h1 rfl (cnf h1 rfl (cnf h1 rfl (co rfl (kpt rfl rfl h1 rfl) (cm rfl ?_))))
 iterate 4 refine cnd rfl rfl ?_
 refine co rfl (kpt rfl rfl rfl rfl) (cm rfl (cnd rfl rfl (cnd rfl rfl (cnd rfl rfl (co rfl (kpt rfl rfl rfl rfl) (cm rfl (cnd rfl rfl (cnd rfl rfl (cnd rfl rfl (co rfl (kpt rfl rfl rfl rfl) (cm rfl (cnd rfl rfl (cnd rfl rfl ?_)))))))))))))
 refine cnd rfl rfl (co rfl (kpt rfl rfl rfl rfl) (cm rfl (cnd rfl rfl (cnd rfl rfl (cnd rfl rfl (co rfl (kpt rfl rfl rfl rfl) (cm rfl (cnd rfl rfl (cnd rfl rfl (cnd rfl rfl (co rfl (kpt rfl rfl rfl rfl) (cm rfl (cnd rfl rfl ?_)))))))))))))
 refine cnd rfl rfl (cnd rfl rfl (co rfl (kpt rfl rfl rfl rfl) (cm rfl ?_)))
 iterate 4 refine cnd rfl rfl ?_
 refine co rfl (kpt rfl rfl rfl rfl) (Ch.nil (Fin.go (wk2 1 56 rfl (Tr.cond rfl (fun _ => ?_) (fun h => nomatch h)))))
 refine Tr.seq (Tr.reg0 (cm rfl (Ch.nil (Fin.go (Tr.ret (Fin.then_ret (Fin.ret1 rfl (OutW.bse _ _) rfl ?_)))))))
 · refine int_eq ?_; unfold checkF whereF whenF; simp_all; omega
 refine cy h1 rfl (kfa rfl fo26_0 rfl rfl) (cy h1 rfl (kl1 rfl one3 rfl) (cy h1 rfl (ki rfl rfl rfl rfl) (co rfl (kpf rfl rfl h1 rfl) (cm rfl ?_))))
 refine Ch.cs 15 rfl ?_ ?_ <;> intro h2 q2
 iterate 4 refine cnf h2 rfl ?_
 refine co rfl (kpt rfl rfl h2 rfl) (cm rfl (cnd rfl rfl (cnd rfl rfl (cnd rfl rfl (co rfl (kpt rfl rfl rfl rfl) (cm rfl (cnd rfl rfl (cnd rfl rfl (cnd rfl rfl (co rfl (kpt rfl rfl rfl rfl) (cm rfl (cnd rfl rfl (cnd rfl rfl ?_)))))))))))))
 refine cnd rfl rfl (co rfl (kpt rfl rfl rfl rfl) (cm rfl (cnd rfl rfl (cnd rfl rfl (cnd rfl rfl (co rfl (kpt rfl rfl rfl rfl) (cm rfl (cnd rfl rfl (cnd rfl rfl (cnd rfl rfl (co rfl (kpt rfl rfl rfl rfl) (cm rfl (cnd rfl rfl ?_)))))))))))))
 refine cnd rfl rfl (cnd rfl rfl (co rfl (kpt rfl rfl rfl rfl) (cm rfl ?_)))
 iterate 4 refine cnd rfl rfl ?_
 refine co rfl (kpt rfl rfl rfl rfl) (Ch.nil (Fin.go (wk2 1 56 rfl (Tr.cond rfl (fun _ => ?_) (fun h => nomatch h)))))
 refine Tr.seq (Tr.reg0 (cm rfl (Ch.nil (Fin.go (Tr.ret (Fin.then_ret (Fin.ret1 rfl (OutW.bse _ _) rfl ?_)))))))
 · refine int_eq ?_; unfold checkF whereF whenF; simp_all; omega
 refine cy h2 rfl (kfa rfl fo26_1 rfl rfl) (cy h2 rfl (kl1 rfl one9 rfl) (cy h2 rfl (ok_call rfl (w_RName) ⟨ke rfl, trivial⟩) (cy h2 rfl (ok_not rfl (vl rfl)) (co rfl (kpf rfl rfl h2 rfl) (cm rfl ?_)))))
 refine Ch.cs 21 rfl ?_ ?_ <;> intro h3 q3
 refine cnf h3 rfl (cnf h3 rfl (cnf h3 rfl (co rfl (kpt rfl rfl h3 rfl) (cm rfl (cnd rfl rfl (cnd rfl rfl (cnd rfl rfl (co rfl (kpt rfl rfl rfl rfl) (cm rfl (cnd rfl rfl (cnd rfl rfl (cnd rfl rfl (co rfl (kpt rfl rfl rfl rfl) ?_)))))))))))))
 refine cm rfl (cnd rfl rfl (cnd rfl rfl (cnd rfl rfl (co rfl (kpt rfl rfl rfl rfl) (cm rfl (cnd rfl rfl (cnd rfl rfl (cnd rfl rfl (co rfl (kpt rfl rfl rfl rfl) (cm rfl (cnd rfl rfl (cnd rfl rfl (cnd rfl rfl ?_)))))))))))))
 refine co rfl (kpt rfl rfl rfl rfl) (cm rfl ?_)
 iterate 4 refine cnd rfl rfl ?_
 refine co rfl (kpt rfl rfl rfl rfl) (Ch.nil (Fin.go (wk2 1 56 rfl (Tr.cond rfl (fun _ => ?_) (fun h => nomatch h)))))
 refine Tr.seq (Tr.reg0 (cm rfl (Ch.nil (Fin.go (Tr.ret (Fin.then_ret (Fin.ret1 rfl (OutW.bse _ _) rfl ?_)))))))
 · refine int_eq ?_; unfold checkF whereF whenF; simp_all
 refine cy h3 rfl (kfa rfl fo26_2 rfl rfl) (cy h3 rfl (kl1 rfl one3 rfl) (cy h3 rfl (ki rfl rfl rfl rfl) (co rfl (kpf rfl rfl h3 rfl) (cm rfl ?_))))
 refine Ch.cs 26 rfl ?_ ?_ <;> intro h4 q4
 refine cnf h4 rfl (cnf h4 rfl (cnf h4 rfl (co rfl (kpt rfl rfl h4 rfl) (cm rfl (cnd rfl rfl (cnd rfl rfl (cnd rfl rfl (co rfl (kpt rfl rfl rfl rfl) (cm rfl (cnd rfl rfl (cnd rfl rfl (cnd rfl rfl (co rfl (kpt rfl rfl rfl rfl) ?_)))))))))))))
 refine cm rfl (cnd rfl rfl (cnd rfl rfl (cnd rfl rfl (co rfl (kpt rfl rfl rfl rfl) (cm rfl (cnd rfl rfl (cnd rfl rfl (cnd rfl rfl (co rfl (kpt rfl rfl rfl rfl) (cm rfl ?_))))))))))
 iterate 4 refine cnd rfl rfl ?_
 refine co rfl (kpt rfl rfl rfl rfl) (Ch.nil (Fin.go (wk2 1 56 rfl (Tr.cond rfl (fun _ => ?_) (fun h => nomatch h)))))
 refine Tr.seq (Tr.reg0 (cm rfl (Ch.nil (Fin.go (Tr.ret (Fin.then_ret (Fin.ret1 rfl (OutW.bse _ _) rfl ?_)))))))
 · refine int_eq ?_; unfold checkF whereF whenF; simp_all; omega
 refine cy h4 rfl (kfa rfl fo26_2 rfl rfl) (cy h4 rfl (kl1 rfl one3 rfl) (cy h4 rfl (ki rfl rfl rfl rfl) (co rfl (kpf rfl rfl h4 rfl) (cm rfl ?_))))
 refine Ch.cs 31 rfl ?_ ?_ <;> intro h5 q5
 refine cnf h5 rfl (cnf h5 rfl (cnf h5 rfl (co rfl (kpt rfl rfl h5 rfl) (cm rfl (cnd rfl rfl (cnd rfl rfl (cnd rfl rfl (co rfl (kpt rfl rfl rfl rfl) (cm rfl (cnd rfl rfl (cnd rfl rfl (cnd rfl rfl (co rfl (kpt rfl rfl rfl rfl) ?_)))))))))))))
 refine cm rfl (cnd rfl rfl (cnd rfl rfl (cnd rfl rfl (co rfl (kpt rfl rfl rfl rfl) (cm rfl ?_)))))
 iterate 4 refine cnd rfl rfl ?_
 refine co rfl (kpt rfl rfl rfl rfl) (Ch.nil (Fin.go (wk2 1 56 rfl (Tr.cond rfl (fun _ => ?_) (fun h => nomatch h)))))
 refine Tr.seq (Tr.reg0 (cm rfl (Ch.nil (Fin.go (Tr.ret (Fin.then_ret (Fin.ret1 rfl (OutW.bse _ _) rfl ?_)))))))
 · refine int_eq ?_; unfold checkF whereF whenF; simp_all; omega
 refine cy h5 rfl (kfa rfl fo26_3 rfl rfl) (cy h5 rfl (kl1 rfl one3 rfl) (cy h5 rfl (ki rfl rfl rfl rfl) (co rfl (kpf rfl rfl h5 rfl) (cm rfl ?_))))
 refine Ch.cs 36 rfl ?_ ?_ <;> intro h6 q6
 refine cnf h6 rfl (cnf h6 rfl (cnf h6 rfl (co rfl (kpt rfl rfl h6 rfl) (cm rfl (cnd rfl rfl (cnd rfl rfl (cnd rfl rfl (co rfl (kpt rfl rfl rfl rfl) (cm rfl (cnd rfl rfl (cnd rfl rfl (cnd rfl rfl (co rfl (kpt rfl rfl rfl rfl) ?_)))))))))))))
 refine cm rfl ?_
 iterate 4 refine cnd rfl rfl ?_
 refine co rfl (kpt rfl rfl rfl rfl) (Ch.nil (Fin.go (wk2 1 56 rfl (Tr.cond rfl (fun _ => ?_) (fun h => nomatch h)))))
 refine Tr.seq (Tr.reg0 (cm rfl (Ch.nil (Fin.go (Tr.ret (Fin.then_ret (Fin.ret1 rfl (OutW.bse _ _) rfl ?_)))))))
 · refine int_eq ?_; unfold checkF whereF whenF; simp_all; omega
 refine cy h6 rfl (kfa rfl fo26_3 rfl rfl) (cy h6 rfl (kl1 rfl one3 rfl) (cy h6 rfl (ki rfl rfl rfl rfl) (co rfl (kpf rfl rfl h6 rfl) (cm rfl ?_))))
 refine Ch.cs 41 rfl ?_ ?_ <;> intro h7 q7
 refine cnf h7 rfl (cnf h7 rfl (cnf h7 rfl (co rfl (kpt rfl rfl h7 rfl) (cm rfl (cnd rfl rfl (cnd rfl rfl (cnd rfl rfl (co rfl (kpt rfl rfl rfl rfl) (cm rfl ?_)))))))))
 iterate 4 refine cnd rfl rfl ?_
 refine co rfl (kpt rfl rfl rfl rfl) (Ch.nil (Fin.go (wk2 1 56 rfl (Tr.cond rfl (fun _ => ?_) (fun h => nomatch h)))))
 refine Tr.seq (Tr.reg0 (cm rfl (Ch.nil (Fin.go (Tr.ret (Fin.then_ret (Fin.ret1 rfl (OutW.bse _ _) rfl ?_)))))))
 · refine int_eq ?_; unfold checkF whereF whenF; simp_all; omega
 refine cy h7 rfl (kfa rfl fo26_4 rfl rfl) (cy h7 rfl (kl1 rfl one3 rfl) (cy h7 rfl (ki rfl rfl rfl rfl) (co rfl (kpf rfl rfl h7 rfl) (cm rfl ?_))))
 refine Ch.cs 46 rfl ?_ ?_ <;> intro h8 q8
 refine cnf h8 rfl (cnf h8 rfl (cnf h8 rfl (co rfl (kpt rfl rfl h8 rfl) (cm rfl ?_))))
 iterate 4 refine cnd rfl rfl ?_
 refine co rfl (kpt rfl rfl rfl rfl) (Ch.nil (Fin.go (wk2 1 56 rfl (Tr.cond rfl (fun _ => ?_) (fun h => nomatch h)))))
 refine Tr.seq (Tr.reg0 (cm rfl (Ch.nil (Fin.go (Tr.ret (Fin.then_ret (Fin.ret1 rfl (OutW.bse _ _) rfl ?_)))))))
 · refine int_eq ?_; unfold checkF whereF whenF; simp_all; omega
 refine cy h8 rfl (kfa rfl fo26_4 rfl rfl) (cy h8 rfl (kl1 rfl one3 rfl) (cy h8 rfl (ki rfl rfl rfl rfl) (co rfl (kpf rfl rfl h8 rfl) (cm rfl ?_))))
 refine Ch.cs 51 rfl ?_ ?_ <;> intro h9 q9
 iterate 4 refine cnf h9 rfl ?_
 refine co rfl (kpt rfl rfl h9 rfl) (Ch.nil (Fin.go (wk2 1 56 rfl (Tr.cond rfl (fun _ => ?_) (fun h => nomatch h)))))
 refine Tr.seq (Tr.reg0 (cm rfl (Ch.nil (Fin.go (Tr.ret (Fin.then_ret (Fin.ret1 rfl (OutW.bse _ _) rfl ?_)))))))
 · refine int_eq ?_; unfold checkF whereF whenF; simp_all; omega
 refine cy h9 rfl (kfa rfl fo26_6 rfl rfl) (cy h9 rfl (kl1 rfl one9 rfl) (cy h9 rfl (ok_call rfl (w_RName) ⟨ke rfl, trivial⟩) (cy h9 rfl (ok_not rfl (vl rfl)) (co rfl (kpf rfl rfl h9 rfl) (Ch.nil (Fin.go (wk2 1 56 rfl ?_)))))))
 refine Tr.cn rfl ?_ ?_ <;> intro h10 q10
 refine Tr.seq (Tr.reg0 (cm rfl (Ch.nil (Fin.go (Tr.ret (Fin.then_ret (Fin.ret1 rfl (OutW.bse _ _) rfl ?_)))))))
 · refine int_eq ?_; unfold checkF whereF whenF; simp_all
 refine Tr.skip (Fin.go (Tr.seq (Tr.reg1 mixed (by kernel_rfl) (co rfl (kfa rfl fo26_7 rfl rfl) (co rfl (ok_loadA rfl agg24 sz24 (vl rfl) rfl rfl) (co rfl (ok_build (rows := []) rfl bl24 zo24 trivial rfl) (co rfl (ok_eq24 rfl (vl rfl) (vl rfl)) (co rfl (kfa rfl fo26_8 rfl rfl) (co rfl (kl1 rfl one3 rfl) (co rfl (ki rfl rfl rfl rfl) (co rfl (kfa rfl fo26_9 rfl rfl) (co rfl (kl1 rfl one9 rfl) (co rfl (ok_eqs rfl (vl rfl) (vl rfl)) ?_)))))))))))))
 refine cm rfl (cm rfl (cm rfl (Ch.nil (Fin.go (wk4 1 3 4 5 rfl (Tr.seq (Tr.reg0 (cm rfl (Ch.nil (Fin.go (Tr.cutk [] [(6, bool (contentF f))] (True) ?_ (fun h11 => ?_))))))))))))
 refine Tr.seq (Tr.reg0 (co rfl (kfa rfl fo26_5 rfl rfl) (co rfl (kl1 rfl one3 rfl) (Ch.nil (Fin.go (Tr.block (Tr.seq (Tr.seq (Tr.reg0 (co rfl (ki rfl rfl rfl rfl) (cm rfl (Ch.nil (Fin.go ?_)))))))))))))
 refine Tr.cn rfl ?_ ?_ <;> intro h12 q12
 refine Tr.skip (Fin.go (Tr.cond rfl (fun _ => ?_) (fun h => nomatch h12.symm.trans h)))
 refine Tr.reg0 (co rfl (kfa rfl fo26_7 rfl rfl) (co rfl (ok_loadA rfl agg24 sz24 (vl rfl) rfl rfl) (co rfl (ok_call rfl (w_RValid) ⟨ke rfl, trivial⟩) (cm rfl ?_))))
 refine Ch.cs 75 rfl ?_ ?_ <;> intro h13 q13
 refine cym h13 rfl (co rfl (kpt rfl rfl h13 rfl) (cm rfl ?_))
 refine Ch.cs 78 rfl ?_ ?_ <;> intro h14 q14
 refine cym h14 rfl (co rfl (kpt rfl rfl h14 rfl) (cm rfl (Ch.nil (Fin.block ?_))))
 exact Fin.fam_same () (by simp_all) ⟨⟨_, rfl, bool_eq (by unfold contentF bareF; simp_all)⟩, trivial⟩
 refine cnt h14 rfl (co rfl (kpf rfl rfl h14 rfl) (cm rfl (Ch.nil (Fin.block ?_))))
 exact Fin.fam_same () (by simp_all) ⟨⟨_, rfl, bool_eq (by unfold contentF bareF; simp_all)⟩, trivial⟩
 refine cnt h13 rfl (co rfl (kpf rfl rfl h13 rfl) (cm rfl (cnd rfl rfl (co rfl (kpf rfl rfl rfl rfl) (cm rfl (Ch.nil (Fin.block ?_)))))))
 exact Fin.fam_same () (by simp_all) ⟨⟨_, rfl, bool_eq (by unfold contentF bareF; simp_all; omega)⟩, trivial⟩
 refine Tr.reg0 (co rfl (ki rfl rfl rfl rfl) (cm rfl (Ch.nil (Fin.go ?_))))
 refine Tr.cn rfl ?_ ?_ <;> intro h15 q15
 refine Tr.reg0 (co rfl (kfa rfl fo26_7 rfl rfl) (co rfl (ok_loadA rfl agg24 sz24 (vl rfl) rfl rfl) (co rfl (ok_call rfl (w_RValid) ⟨ke rfl, trivial⟩) (cm rfl ?_))))
 refine Ch.cs 75 rfl ?_ ?_ <;> intro h16 q16
 refine cym h16 rfl (co rfl (kpt rfl rfl h16 rfl) (cm rfl ?_))
 refine Ch.cs 78 rfl ?_ ?_ <;> intro h17 q17
 refine cym h17 rfl (co rfl (kpt rfl rfl h17 rfl) (cm rfl (Ch.nil (Fin.block ?_))))
 exact Fin.fam_same () (by simp_all) ⟨⟨_, rfl, bool_eq (by unfold contentF bareF; simp_all)⟩, trivial⟩
 refine cnt h17 rfl (co rfl (kpf rfl rfl h17 rfl) (cm rfl (Ch.nil (Fin.block ?_))))
 exact Fin.fam_same () (by simp_all) ⟨⟨_, rfl, bool_eq (by unfold contentF bareF; simp_all)⟩, trivial⟩
 refine cnt h16 rfl (co rfl (kpf rfl rfl h16 rfl) (cm rfl (cnd rfl rfl (co rfl (kpf rfl rfl rfl rfl) (cm rfl (Ch.nil (Fin.block ?_)))))))
 exact Fin.fam_same () (by simp_all) ⟨⟨_, rfl, bool_eq (by unfold contentF bareF; simp_all; omega)⟩, trivial⟩
 refine Tr.seq (Tr.reg0 (co rfl (ki rfl rfl rfl rfl) (cm rfl (Ch.nil (Fin.go ?_)))))
 refine Tr.cn rfl ?_ ?_ <;> intro h18 q18
 refine Tr.reg0 (cm rfl (cm rfl ?_))
 refine Ch.cs 84 rfl ?_ ?_ <;> intro h19 q19
 refine cy h19 rfl (kfa rfl fo26_8 rfl rfl) (cy h19 rfl (kl1 rfl one3 rfl) (cy h19 rfl (ki rfl rfl rfl rfl) (co rfl (kpt rfl rfl h19 rfl) (cm rfl ?_))))
 refine Ch.cs 89 rfl ?_ ?_ <;> intro h20 q20
 refine cy h20 rfl (kfa rfl fo26_8 rfl rfl) (cy h20 rfl (kl1 rfl one3 rfl) (cy h20 rfl (ki rfl rfl rfl rfl) (co rfl (kpt rfl rfl h20 rfl) (cm rfl ?_))))
 refine Ch.cs 94 rfl ?_ ?_ <;> intro h21 q21
 refine cym h21 rfl (co rfl (kpt rfl rfl h21 rfl) (cm rfl (Ch.nil (Fin.block ?_))))
 exact Fin.fam_same () (by simp_all) ⟨⟨_, rfl, bool_eq (by unfold contentF bareF; simp_all)⟩, trivial⟩
 refine cnt h21 rfl (co rfl (kpf rfl rfl h21 rfl) (cm rfl (Ch.nil (Fin.block ?_))))
 exact Fin.fam_same () (by simp_all) ⟨⟨_, rfl, bool_eq (by unfold contentF bareF; simp_all)⟩, trivial⟩
 refine cnt h20 rfl (cnt h20 rfl (cnt h20 rfl (co rfl (kpf rfl rfl h20 rfl) (cm rfl (cnd rfl rfl (co rfl (kpf rfl rfl rfl rfl) (cm rfl (Ch.nil (Fin.block ?_)))))))))
 exact Fin.fam_same () (by simp_all) ⟨⟨_, rfl, bool_eq (by unfold contentF bareF; simp_all; omega)⟩, trivial⟩
 refine cnt h19 rfl (cnt h19 rfl (cnt h19 rfl (co rfl (kpf rfl rfl h19 rfl) (cm rfl (cnd rfl rfl (cnd rfl rfl (cnd rfl rfl (co rfl (kpf rfl rfl rfl rfl) (cm rfl (cnd rfl rfl (co rfl (kpf rfl rfl rfl rfl) (cm rfl (Ch.nil (Fin.block ?_))))))))))))))
 exact Fin.fam_same () (by simp_all) ⟨⟨_, rfl, bool_eq (by unfold contentF bareF; simp_all)⟩, trivial⟩
 refine Tr.seq (Tr.reg0 (co rfl (ki rfl rfl rfl rfl) (cm rfl (Ch.nil (Fin.go (wk7 1 3 4 5 6 68 97 rfl ?_))))))
 refine Tr.cn rfl ?_ ?_ <;> intro h22 q22
 refine Tr.reg0 (co rfl (kfa rfl fo26_7 rfl rfl) (co rfl (ok_loadA rfl agg24 sz24 (vl rfl) rfl rfl) (co rfl (ok_call rfl (w_Signature) ⟨ke rfl, trivial⟩) (cm rfl ?_))))
 refine Ch.cs 102 rfl ?_ ?_ <;> intro h23 q23
 refine cy h23 rfl (kfa rfl fo26_8 rfl rfl) (cy h23 rfl (kl1 rfl one3 rfl) (cy h23 rfl (ki rfl rfl rfl rfl) (co rfl (kpt rfl rfl h23 rfl) (cm rfl ?_))))
 refine Ch.cs 107 rfl ?_ ?_ <;> intro h24 q24
 refine cy h24 rfl (kfa rfl fo26_8 rfl rfl) (cy h24 rfl (kl1 rfl one3 rfl) (cy h24 rfl (ki rfl rfl rfl rfl) (co rfl (kpt rfl rfl h24 rfl) (cm rfl ?_))))
 refine Ch.cs 112 rfl ?_ ?_ <;> intro h25 q25
 refine cym h25 rfl (co rfl (kpt rfl rfl h25 rfl) (cm rfl (Ch.nil (Fin.block ?_))))
 exact Fin.fam_same () (by simp_all) ⟨⟨_, rfl, bool_eq (by unfold contentF bareF; simp_all)⟩, trivial⟩
 refine cnt h25 rfl (co rfl (kpf rfl rfl h25 rfl) (cm rfl (Ch.nil (Fin.block ?_))))
 exact Fin.fam_same () (by simp_all) ⟨⟨_, rfl, bool_eq (by unfold contentF bareF; simp_all; omega)⟩, trivial⟩
 refine cnt h24 rfl (cnt h24 rfl (cnt h24 rfl (co rfl (kpf rfl rfl h24 rfl) (cm rfl (cnd rfl rfl (co rfl (kpf rfl rfl rfl rfl) (cm rfl (Ch.nil (Fin.block ?_)))))))))
 exact Fin.fam_same () (by simp_all) ⟨⟨_, rfl, bool_eq (by unfold contentF bareF; simp_all; omega)⟩, trivial⟩
 refine cnt h23 rfl (cnt h23 rfl (cnt h23 rfl (co rfl (kpf rfl rfl h23 rfl) (cm rfl (cnd rfl rfl (cnd rfl rfl (cnd rfl rfl (co rfl (kpf rfl rfl rfl rfl) (cm rfl (cnd rfl rfl (co rfl (kpf rfl rfl rfl rfl) (cm rfl (Ch.nil (Fin.block ?_))))))))))))))
 exact Fin.fam_same () (by simp_all) ⟨⟨_, rfl, bool_eq (by unfold contentF bareF; simp_all)⟩, trivial⟩
 refine Tr.seq (Tr.seq (Tr.reg0 (co rfl (ki rfl rfl rfl rfl) (cm rfl (Ch.nil (Fin.go ?_))))))
 refine Tr.cn rfl ?_ ?_ <;> intro h26 q26
 refine Tr.skip (Fin.go (Tr.cond rfl (fun _ => ?_) (fun h => nomatch h26.symm.trans h)))
 refine Tr.reg0 (cm rfl (cm rfl ?_))
 refine Ch.cs 119 rfl ?_ ?_ <;> intro h27 q27
 refine cy h27 rfl (kfa rfl fo26_8 rfl rfl) (cy h27 rfl (kl1 rfl one3 rfl) (cy h27 rfl (ki rfl rfl rfl rfl) (co rfl (kpt rfl rfl h27 rfl) (cm rfl ?_))))
 refine Ch.cs 124 rfl ?_ ?_ <;> intro h28 q28
 refine cy h28 rfl (kfa rfl fo26_8 rfl rfl) (cy h28 rfl (kl1 rfl one3 rfl) (cy h28 rfl (ki rfl rfl rfl rfl) (co rfl (kpt rfl rfl h28 rfl) (cm rfl ?_))))
 refine Ch.cs 129 rfl ?_ ?_ <;> intro h29 q29
 refine cym h29 rfl (co rfl (kpt rfl rfl h29 rfl) (cm rfl (Ch.nil (Fin.block ?_))))
 exact Fin.fam_same () (by simp_all) ⟨⟨_, rfl, bool_eq (by unfold contentF bareF; simp_all)⟩, trivial⟩
 refine cnt h29 rfl (co rfl (kpf rfl rfl h29 rfl) (cm rfl (Ch.nil (Fin.block ?_))))
 exact Fin.fam_same () (by simp_all) ⟨⟨_, rfl, bool_eq (by unfold contentF bareF; simp_all)⟩, trivial⟩
 refine cnt h28 rfl (cnt h28 rfl (cnt h28 rfl (co rfl (kpf rfl rfl h28 rfl) (cm rfl (cnd rfl rfl (co rfl (kpf rfl rfl rfl rfl) (cm rfl (Ch.nil (Fin.block ?_)))))))))
 exact Fin.fam_same () (by simp_all) ⟨⟨_, rfl, bool_eq (by unfold contentF bareF; simp_all; omega)⟩, trivial⟩
 refine cnt h27 rfl (cnt h27 rfl (cnt h27 rfl (co rfl (kpf rfl rfl h27 rfl) (cm rfl (cnd rfl rfl (cnd rfl rfl (cnd rfl rfl (co rfl (kpf rfl rfl rfl rfl) (cm rfl (cnd rfl rfl (co rfl (kpf rfl rfl rfl rfl) (cm rfl (Ch.nil (Fin.block ?_))))))))))))))
 exact Fin.fam_same () (by simp_all) ⟨⟨_, rfl, bool_eq (by unfold contentF bareF; simp_all)⟩, trivial⟩
 refine Tr.reg0 (co rfl (ki rfl rfl rfl rfl) (cm rfl (Ch.nil (Fin.go ?_))))
 refine Tr.cn rfl ?_ ?_ <;> intro h30 q30
 refine Tr.reg0 (cm rfl (cm rfl ?_))
 refine Ch.cs 119 rfl ?_ ?_ <;> intro h31 q31
 refine cy h31 rfl (kfa rfl fo26_8 rfl rfl) (cy h31 rfl (kl1 rfl one3 rfl) (cy h31 rfl (ki rfl rfl rfl rfl) (co rfl (kpt rfl rfl h31 rfl) (cm rfl ?_))))
 refine Ch.cs 124 rfl ?_ ?_ <;> intro h32 q32
 refine cy h32 rfl (kfa rfl fo26_8 rfl rfl) (cy h32 rfl (kl1 rfl one3 rfl) (cy h32 rfl (ki rfl rfl rfl rfl) (co rfl (kpt rfl rfl h32 rfl) (cm rfl ?_))))
 refine Ch.cs 129 rfl ?_ ?_ <;> intro h33 q33
 refine cym h33 rfl (co rfl (kpt rfl rfl h33 rfl) (cm rfl (Ch.nil (Fin.block ?_))))
 exact Fin.fam_same () (by simp_all) ⟨⟨_, rfl, bool_eq (by unfold contentF bareF; simp_all)⟩, trivial⟩
 refine cnt h33 rfl (co rfl (kpf rfl rfl h33 rfl) (cm rfl (Ch.nil (Fin.block ?_))))
 exact Fin.fam_same () (by simp_all) ⟨⟨_, rfl, bool_eq (by unfold contentF bareF; simp_all)⟩, trivial⟩
 refine cnt h32 rfl (cnt h32 rfl (cnt h32 rfl (co rfl (kpf rfl rfl h32 rfl) (cm rfl (cnd rfl rfl (co rfl (kpf rfl rfl rfl rfl) (cm rfl (Ch.nil (Fin.block ?_)))))))))
 exact Fin.fam_same () (by simp_all) ⟨⟨_, rfl, bool_eq (by unfold contentF bareF; simp_all; omega)⟩, trivial⟩
 refine cnt h31 rfl (cnt h31 rfl (cnt h31 rfl (co rfl (kpf rfl rfl h31 rfl) (cm rfl (cnd rfl rfl (cnd rfl rfl (cnd rfl rfl (co rfl (kpf rfl rfl rfl rfl) (cm rfl (cnd rfl rfl (co rfl (kpf rfl rfl rfl rfl) (cm rfl (Ch.nil (Fin.block ?_))))))))))))))
 exact Fin.fam_same () (by simp_all) ⟨⟨_, rfl, bool_eq (by unfold contentF bareF; simp_all)⟩, trivial⟩
 refine Tr.seq (Tr.reg0 (co rfl (ki rfl rfl rfl rfl) (cm rfl (Ch.nil (Fin.go ?_)))))
 refine Tr.cn rfl ?_ ?_ <;> intro h34 q34
 refine Tr.reg0 (cm rfl (cm rfl ?_))
 refine Ch.cs 135 rfl ?_ ?_ <;> intro h35 q35
 refine cy h35 rfl (kfa rfl fo26_8 rfl rfl) (cy h35 rfl (kl1 rfl one3 rfl) (cy h35 rfl (ki rfl rfl rfl rfl) (co rfl (kpt rfl rfl h35 rfl) (cm rfl ?_))))
 refine Ch.cs 140 rfl ?_ ?_ <;> intro h36 q36
 refine cy h36 rfl (kfa rfl fo26_8 rfl rfl) (cy h36 rfl (kl1 rfl one3 rfl) (cy h36 rfl (ki rfl rfl rfl rfl) (co rfl (kpt rfl rfl h36 rfl) (cm rfl ?_))))
 refine Ch.cs 145 rfl ?_ ?_ <;> intro h37 q37
 refine cym h37 rfl (co rfl (kpt rfl rfl h37 rfl) (cm rfl (Ch.nil (Fin.block ?_))))
 exact Fin.fam_same () (by simp_all) ⟨⟨_, rfl, bool_eq (by unfold contentF bareF; simp_all)⟩, trivial⟩
 refine cnt h37 rfl (co rfl (kpf rfl rfl h37 rfl) (cm rfl (Ch.nil (Fin.block ?_))))
 exact Fin.fam_same () (by simp_all) ⟨⟨_, rfl, bool_eq (by unfold contentF bareF; simp_all)⟩, trivial⟩
 refine cnt h36 rfl (cnt h36 rfl (cnt h36 rfl (co rfl (kpf rfl rfl h36 rfl) (cm rfl (cnd rfl rfl (co rfl (kpf rfl rfl rfl rfl) (cm rfl (Ch.nil (Fin.block ?_)))))))))
 exact Fin.fam_same () (by simp_all) ⟨⟨_, rfl, bool_eq (by unfold contentF bareF; simp_all; omega)⟩, trivial⟩
 refine cnt h35 rfl (cnt h35 rfl (cnt h35 rfl (co rfl (kpf rfl rfl h35 rfl) (cm rfl (cnd rfl rfl (cnd rfl rfl (cnd rfl rfl (co rfl (kpf rfl rfl rfl rfl) (cm rfl (cnd rfl rfl (co rfl (kpf rfl rfl rfl rfl) (cm rfl (Ch.nil (Fin.block ?_))))))))))))))
 exact Fin.fam_same () (by simp_all) ⟨⟨_, rfl, bool_eq (by unfold contentF bareF; simp_all)⟩, trivial⟩
 refine Tr.seq (Tr.reg0 (co rfl (ki rfl rfl rfl rfl) (cm rfl (Ch.nil (Fin.go (wk5 1 3 4 6 148 rfl ?_))))))
 refine Tr.cn rfl ?_ ?_ <;> intro h38 q38
 refine Tr.reg0 (cm rfl (cm rfl ?_))
 refine Ch.cs 151 rfl ?_ ?_ <;> intro h39 q39
 refine cym h39 rfl (co rfl (kpt rfl rfl h39 rfl) (cm rfl ?_))
 refine Ch.cs 154 rfl ?_ ?_ <;> intro h40 q40
 refine cy h40 rfl (kfa rfl fo26_9 rfl rfl) (cy h40 rfl (kl1 rfl one9 rfl) (cy h40 rfl (ok_call rfl (w_RName) ⟨ke rfl, trivial⟩) (co rfl (kpt rfl rfl h40 rfl) (cm rfl (Ch.nil (Fin.block ?_))))))
 exact Fin.fam_same () (by simp_all) ⟨⟨_, rfl, bool_eq (by unfold contentF bareF; simp_all)⟩, trivial⟩
 refine cnt h40 rfl (cnt h40 rfl (cnt h40 rfl (co rfl (kpf rfl rfl h40 rfl) (cm rfl (Ch.nil (Fin.block ?_))))))
 exact Fin.fam_same () (by simp_all) ⟨⟨_, rfl, bool_eq (by unfold contentF bareF; simp_all)⟩, trivial⟩
 refine cnt h39 rfl (co rfl (kpf rfl rfl h39 rfl) (cm rfl (cnd rfl rfl (cnd rfl rfl (cnd rfl rfl (co rfl (kpf rfl rfl rfl rfl) (cm rfl (Ch.nil (Fin.block ?_)))))))))
 exact Fin.fam_same () (by simp_all) ⟨⟨_, rfl, bool_eq (by unfold contentF bareF; simp_all)⟩, trivial⟩
 refine Tr.skip (Fin.block ?_)
 exact Fin.fam_same () (by simp_all) ⟨⟨_, rfl, bool_eq (by unfold contentF bareF; simp_all)⟩, trivial⟩
 refine Tr.seq (Tr.seq (Tr.reg0 (cm rfl (co rfl (ok_not rfl (vl rfl)) (Ch.nil (Fin.go ?_))))))
 refine Tr.cn rfl ?_ ?_ <;> intro h41 q41
 refine Tr.seq (Tr.reg0 (cm rfl (Ch.nil (Fin.go (Tr.ret (Fin.then_ret (Fin.ret1 rfl (OutW.bse _ _) rfl ?_)))))))
 · refine int_eq ?_; unfold checkF whereF whenF; simp_all
 refine Tr.skip (Fin.go (Tr.seq (Tr.reg0 (cm rfl (Ch.nil (Fin.go (Tr.ret (Fin.ret1 rfl (OutW.bse _ _) rfl ?_))))))))
 · refine int_eq ?_; unfold checkF whereF whenF; simp_all
/-- The first of some numbers that is not 0. -/
def orL : List Int → Int
  | [] => 0
  | a :: l => if a = 0 then orL l else a
theorem orL_orF : ∀ l, orF l = orL l
  | [] => rfl
  | a :: l => by
    have ih : (l.find? fun x => x != 0).getD 0 = orL l := orL_orF l
    show ((a :: l).find? fun x => x != 0).getD 0 = if a = 0 then orL l else a
    by_cases h : a = 0
    · rw [List.find?_cons_of_neg (by simp [h]), if_pos h]; exact ih
    · rw [List.find?_cons_of_pos (by simpa using h), if_neg h]; rfl
def keysF (a b : Fnd) : List Int := [Lib.compareBytes a.host b.host, cmpI a.machine b.machine, cmpI a.day b.day, Lib.compareBytes a.subj b.subj, cmpI a.kind b.kind, cmpI a.alg b.alg, cmpI a.bits b.bits, cmpI a.num b.num, Lib.compareBytes a.text b.text, cmpI a.src b.src, cmpI a.conf b.conf]
/-- How two findings are ordered. -/
def ordF (a b : Fnd) : Int := orL (keysF a b)

set_option maxRecDepth 20000 in
theorem w_texts {a b : List UInt8}  : Fun Tryz.prog 172 [str a, str b] (int (Lib.compareBytes a b)) := by
 refine Fun.of Tryz.func172 rfl rfl (by exact Nat.le_of_ble_eq_true rfl) fun M0 w0 => ?_
 refine Tr.seq (Tr.reg0 (cm rfl (Ch.nil (Fin.go (Tr.seq (Tr.seq (Tr.reg0 (cm rfl (cm rfl (co rfl (ok_lts rfl (vl rfl) (vl rfl)) (Ch.nil (Fin.go ?_))))))))))))
 refine Tr.cn rfl ?_ ?_ <;> intro h1 q1
 refine Tr.seq (Tr.reg0 (cm rfl (Ch.nil (Fin.go (Tr.ret (Fin.then_ret (Fin.ret1 rfl (OutW.bse _ _) rfl ?_)))))))
 · refine int_eq ?_; have h9 := cmp_in a b; simp_all
 refine Tr.skip (Fin.go (Tr.seq (Tr.seq (Tr.reg0 (cm rfl (cm rfl (co rfl (ok_gts rfl (vl rfl) (vl rfl)) (Ch.nil (Fin.go ?_)))))))))
 refine Tr.cn rfl ?_ ?_ <;> intro h2 q2
 refine Tr.seq (Tr.reg0 (cm rfl (Ch.nil (Fin.go (Tr.ret (Fin.then_ret (Fin.ret1 rfl (OutW.bse _ _) rfl ?_)))))))
 · refine int_eq ?_; have h9 := cmp_in a b; simp_all
 refine Tr.skip (Fin.go (Tr.seq (Tr.reg0 (cm rfl (Ch.nil (Fin.go (Tr.ret (Fin.ret1 rfl (OutW.bse _ _) rfl ?_))))))))
 · refine int_eq ?_; have h9 := cmp_in a b; simp_all
def intsC : List Int → List Int → Int
  | a :: l, b :: m => if cmpI a b = 0 then intsC l m else cmpI a b
  | _, _ => 0
theorem intsC_step {a b : List Int} {k : Nat} {x y : Int} (hx : a[k]? = some x) (hy : b[k]? = some y) : intsC (a.drop k) (b.drop k) = if cmpI x y = 0 then intsC (a.drop (k + 1)) (b.drop (k + 1)) else cmpI x y := by
  rw [drop_cons hx, drop_cons hy]; rfl

set_option maxRecDepth 20000 in
theorem w_intsC {a b : List Int} (hl : a.length ≤ b.length) : Fun Tryz.prog 173 [ints a, ints b] (int (intsC a b)) := by
 refine Fun.of Tryz.func173 rfl rfl (by exact Nat.le_of_ble_eq_true rfl) fun M0 w0 => ?_
 refine Tr.lenm 0 rfl fun hlm_0 => (Tr.seq (Tr.reg0 (cm rfl (Ch.nil (Fin.go (Tr.seq (Tr.seq (Tr.reg0 (cm rfl (Ch.nil (Fin.go (Tr.block (Tr.loopw [(0, _), (1, _)] (kk2 rfl) (fun k : Nat => [(5, int ((k : Nat) : Int))]) (fun k : Nat => k ≤ (a).length ∧ (intsC a b = intsC (a.drop k) (b.drop k))) (fun k : Nat => (a).length - k) 0 (⟨Nat.zero_le _, rfl⟩) ⟨ke rfl, trivial⟩ ?_)))))))))))))
 rintro k ⟨hle_k, hinv_k⟩
 refine Tr.seq (Tr.seq (Tr.reg0 (cm rfl (cm rfl (co rfl (ok_lenm rfl Tryz.underlying22 (vl rfl)) (co rfl (ki rfl rfl rfl rfl) (Ch.nil (Fin.go ?_))))))))
 refine Tr.cn rfl ?_ ?_ <;> intro h1 q1
 have hk_k : k < (a).length := lt_of_dec h1
 obtain ⟨x, hx_k⟩ := at_ hk_k
 obtain ⟨y, hy⟩ := at_ (l := b) (k := k) (by omega)
 have hst := intsC_step hx_k hy
 refine Tr.skip (Fin.go (Tr.seq (Tr.block (Tr.seq (Tr.seq (Tr.reg1 mixed (by kernel_rfl) (cm rfl (cm rfl (co rfl (ok_indexAddr rfl Tryz.underlying22 sz3 (vl rfl) (vl rfl) (by omega) (by exact row_at (by assumption))) ?_)))))))))
 refine co rfl (kl1 rfl one3 rfl) (cm rfl (cm rfl (co rfl (ok_indexAddr rfl Tryz.underlying22 sz3 (vl rfl) (vl rfl) (by omega) (by exact row_at (by assumption))) ?_)))
 refine co rfl (kl1 rfl one3 rfl) (co rfl (ki rfl rfl rfl rfl) (Ch.nil (Fin.go (wk4 0 1 5 20 rfl ?_))))
 refine Tr.cn rfl ?_ ?_ <;> intro h2 q2
 refine Tr.seq (Tr.reg0 (cm rfl (Ch.nil (Fin.go (Tr.ret (Fin.then_ret (Fin.block_ret (Fin.then_ret (Fin.then_ret (Fin.block_ret (Fin.then_ret (Fin.ret1 rfl (OutW.bse _ _) rfl ?_))))))))))))
 · refine int_eq ?_; rw [hinv_k, hst]; unfold cmpI; (repeat (first | rw [if_pos (by omega)] | rw [if_neg (by omega)]))
 refine Tr.skip (Fin.go (Tr.seq (Tr.reg1 mixed (by kernel_rfl) (cm rfl (cm rfl (co rfl (ok_indexAddr rfl Tryz.underlying22 sz3 (vl rfl) (vl rfl) (by omega) (by exact row_at (by assumption))) ?_))))))
 refine co rfl (kl1 rfl one3 rfl) (cm rfl (cm rfl (co rfl (ok_indexAddr rfl Tryz.underlying22 sz3 (vl rfl) (vl rfl) (by omega) (by exact row_at (by assumption))) ?_)))
 refine co rfl (kl1 rfl one3 rfl) (co rfl (ki rfl rfl rfl rfl) (Ch.nil (Fin.go ?_)))
 refine Tr.cn rfl ?_ ?_ <;> intro h3 q3
 refine Tr.seq (Tr.reg0 (cm rfl (Ch.nil (Fin.go (wk1 4 rfl (Tr.ret (Fin.block_ret (Fin.then_ret (Fin.then_ret (Fin.block_ret (Fin.then_ret (Fin.ret1 rfl (OutW.bse _ _) rfl ?_))))))))))))
 · refine int_eq ?_; rw [hinv_k, hst]; unfold cmpI; (repeat (first | rw [if_pos (by omega)] | rw [if_neg (by omega)]))
 refine Tr.skip (Fin.block (Fin.go (Tr.reg0 (cm rfl (cad rfl rfl rfl rfl (by omega) (cm rfl (Ch.nil ?_)))))))
 exact Fin.fam_same (k + 1) ⟨⟨hk_k, (hinv_k.trans (hst.trans (if_pos (by rw [cmpI_zero]; omega))))⟩, by omega⟩ ⟨⟨_, rfl, int_succ k⟩, ke rfl, ke rfl, trivial⟩
 have he_k : k = (a).length := by have := ge_of_dec h1; omega
 subst he_k
 refine Tr.exit (Fin.then_exit (Fin.then_exit (Fin.block_here (Fin.go (Tr.seq (Tr.reg0 (cm rfl (Ch.nil (Fin.go (Tr.ret (Fin.ret1 rfl (OutW.bse _ _) rfl ?_)))))))))))
 · refine int_eq ?_; rw [hinv_k, List.drop_length]; cases b <;> rfl
theorem or_hit {a : Int} {l : List Int} (h : ¬ a = 0) : orL (a :: l) = a := if_neg h
theorem or_miss {a : Int} {l : List Int} (h : a = 0) : orL (a :: l) = orL l := if_pos h
theorem intsC_2 (a b c d : Int) : intsC [a, b] [c, d] = orL [cmpI a c, cmpI b d] := by
  show (if cmpI a c = 0 then (if cmpI b d = 0 then 0 else cmpI b d) else cmpI a c) = if cmpI a c = 0 then (if cmpI b d = 0 then 0 else cmpI b d) else cmpI a c
  rfl
theorem orL_app : ∀ (l m : List Int), orL (l ++ m) = if orL l = 0 then orL m else orL l
  | [], m => by simp [orL]
  | a :: l, m => by
    have ih := orL_app l m
    show (if a = 0 then orL (l ++ m) else a) = if (if a = 0 then orL l else a) = 0 then orL m else (if a = 0 then orL l else a)
    by_cases h : a = 0
    · simp only [h, if_true]; exact ih
    · simp [h]
theorem ordF_eq (a b : Fnd) : ordF a b = orL [Lib.compareBytes a.host b.host, orL [cmpI a.machine b.machine, cmpI a.day b.day], Lib.compareBytes a.subj b.subj, orL [cmpI a.kind b.kind, cmpI a.alg b.alg, cmpI a.bits b.bits, cmpI a.num b.num], Lib.compareBytes a.text b.text, orL [cmpI a.src b.src, cmpI a.conf b.conf]] := by
  have h : ∀ (l : List Int) (m n : List Int), orL (m ++ (orL l :: n)) = orL (m ++ (l ++ n)) := by
    intro l m n
    rw [orL_app, orL_app m, orL_app l n]; rfl
  unfold ordF keysF
  have e1 := h [cmpI a.machine b.machine, cmpI a.day b.day] [Lib.compareBytes a.host b.host] [Lib.compareBytes a.subj b.subj, orL [cmpI a.kind b.kind, cmpI a.alg b.alg, cmpI a.bits b.bits, cmpI a.num b.num], Lib.compareBytes a.text b.text, orL [cmpI a.src b.src, cmpI a.conf b.conf]]
  have e2 := h [cmpI a.kind b.kind, cmpI a.alg b.alg, cmpI a.bits b.bits, cmpI a.num b.num] [Lib.compareBytes a.host b.host, cmpI a.machine b.machine, cmpI a.day b.day, Lib.compareBytes a.subj b.subj] [Lib.compareBytes a.text b.text, orL [cmpI a.src b.src, cmpI a.conf b.conf]]
  have e3 := h [cmpI a.src b.src, cmpI a.conf b.conf] [Lib.compareBytes a.host b.host, cmpI a.machine b.machine, cmpI a.day b.day, Lib.compareBytes a.subj b.subj, cmpI a.kind b.kind, cmpI a.alg b.alg, cmpI a.bits b.bits, cmpI a.num b.num, Lib.compareBytes a.text b.text] []
  exact (e1.trans (e2.trans e3)).symm

set_option maxRecDepth 20000 in
theorem w_R14Order {a b : Fnd}  : Fun Tryz.prog 116 [agg (rowF a), agg (rowF b)] (int (ordF a b)) := by
 refine Fun.of Tryz.func116 rfl rfl (by exact Nat.le_of_ble_eq_true rfl) fun M0 w0 => ?_
 refine Tr.seq (Tr.reg0 (co rfl (ok_box rfl (VL.le (vl rfl) (agg_cellsP _))) (co rfl (ok_box rfl (VL.le (vl rfl) (agg_cellsP _))) (cm rfl (Ch.nil (Fin.go (Tr.seq (Tr.seq (Tr.reg0 (co rfl (kfa rfl fo26_1 rfl rfl) (co rfl (kl1 rfl one9 rfl) (co rfl (kfa rfl fo26_1 rfl rfl) (co rfl (kl1 rfl one9 rfl) ?_)))))))))))))
 refine co rfl (ok_call rfl (w_texts) ⟨ke rfl, ke rfl, trivial⟩) (cm rfl (Ch.nil (Fin.go (Tr.seq (Tr.reg0 (cm rfl (co rfl (ki rfl rfl rfl rfl) (Ch.nil (Fin.go ?_)))))))))
 refine Tr.cn rfl ?_ ?_ <;> intro h1 q1
 refine Tr.seq (Tr.reg0 (cm rfl (cm rfl (Ch.nil (Fin.go (Tr.ret (Fin.then_ret (Fin.ret1 rfl (OutW.bse _ _) rfl ?_))))))))
 · refine int_eq ?_; rw [ordF_eq]; exact (or_hit (by assumption)).symm
 refine Tr.skip (Fin.go (Tr.seq (Tr.seq (Tr.reg0 (co rfl (kfa rfl fo26_2 rfl rfl) (co rfl (kl1 rfl one3 rfl) (co rfl (kfa rfl fo26_3 rfl rfl) (co rfl (kl1 rfl one3 rfl) (co rfl (ok_buildSlice (xs := [.tmp 19, .tmp 21]) (rows := [[_], [_]]) rfl rfl Tryz.underlying22 sz3 z3 rfl (by decide) ⟨⟨(by exact rfl), (VL.le (vl rfl) (one_cellsP _))⟩, ⟨⟨(by exact rfl), (VL.le (vl rfl) (one_cellsP _))⟩, trivial⟩⟩ (by decide)) ?_)))))))))
 refine co rfl (kfa rfl fo26_2 rfl rfl) (co rfl (kl1 rfl one3 rfl) (co rfl (kfa rfl fo26_3 rfl rfl) (co rfl (kl1 rfl one3 rfl) (co rfl (ok_buildSlice (xs := [.tmp 24, .tmp 26]) (rows := [[_], [_]]) rfl rfl Tryz.underlying22 sz3 z3 rfl (by decide) ⟨⟨(by exact rfl), (VL.le (vl rfl) (one_cellsP _))⟩, ⟨⟨(by exact rfl), (VL.le (vl rfl) (one_cellsP _))⟩, trivial⟩⟩ (by decide)) ?_))))
 refine co rfl (ok_call rfl (w_intsC (a := [a.machine, a.day]) (b := [b.machine, b.day]) (by simp)) ⟨⟨_, rfl, full_le _ _⟩, ⟨_, rfl, full_le _ _⟩, trivial⟩) ?_
 refine cm rfl (Ch.nil (Fin.go (wk3 2 3 6 rfl (Tr.seq (Tr.reg0 (cm rfl (co rfl (ki rfl rfl rfl rfl) (Ch.nil (Fin.go ?_)))))))))
 refine Tr.cn rfl ?_ ?_ <;> intro h2 q2
 refine Tr.seq (Tr.reg0 (cm rfl (cm rfl (Ch.nil (Fin.go (Tr.ret (Fin.then_ret (Fin.ret1 rfl (OutW.bse _ _) rfl ?_))))))))
 · refine int_eq ?_; rw [ordF_eq]; rw [or_miss (by assumption)]; exact (or_hit (by assumption)).symm
 refine Tr.skip (Fin.go (Tr.seq (Tr.seq (Tr.reg0 (co rfl (kfa rfl fo26_6 rfl rfl) (co rfl (kl1 rfl one9 rfl) (co rfl (kfa rfl fo26_6 rfl rfl) (co rfl (kl1 rfl one9 rfl) (co rfl (ok_call rfl (w_texts) ⟨ke rfl, ke rfl, trivial⟩) (cm rfl (Ch.nil (Fin.go (Tr.seq (Tr.reg0 ?_))))))))))))))
 refine cm rfl (co rfl (ki rfl rfl rfl rfl) (Ch.nil (Fin.go ?_)))
 refine Tr.cn rfl ?_ ?_ <;> intro h3 q3
 refine Tr.seq (Tr.reg0 (cm rfl (cm rfl (Ch.nil (Fin.go (wk1 4 rfl (Tr.ret (Fin.then_ret (Fin.ret1 rfl (OutW.bse _ _) rfl ?_)))))))))
 · refine int_eq ?_; rw [ordF_eq]; rw [or_miss (by assumption), or_miss (by assumption)]; exact (or_hit (by assumption)).symm
 refine Tr.skip (Fin.go (Tr.seq (Tr.seq (Tr.reg0 (co rfl (kfa rfl fo26_5 rfl rfl) (co rfl (kl1 rfl one3 rfl) (co rfl (kfa rfl fo26_7 rfl rfl) (co rfl (kfa rfl fo24_0 rfl rfl) (co rfl (kl1 rfl one3 rfl) (co rfl (kfa rfl fo26_7 rfl rfl) (co rfl (kfa rfl fo24_1 rfl rfl) (co rfl (kl1 rfl one3 rfl) (co rfl (kfa rfl fo26_8 rfl rfl) ?_)))))))))))))
 refine co rfl (kl1 rfl one3 rfl) (co rfl (ok_buildSlice (xs := [.tmp 41, .tmp 44, .tmp 47, .tmp 49]) (rows := [[_], [_], [_], [_]]) rfl rfl Tryz.underlying22 sz3 z3 rfl (by decide) ⟨⟨(by exact rfl), (VL.le (vl rfl) (one_cellsP _))⟩, ⟨⟨(by exact rfl), (VL.le (vl rfl) (one_cellsP _))⟩, ⟨⟨(by exact rfl), (VL.le (vl rfl) (one_cellsP _))⟩, ⟨⟨(by exact rfl), (VL.le (vl rfl) (one_cellsP _))⟩, trivial⟩⟩⟩⟩ (by decide)) ?_)
 refine co rfl (kfa rfl fo26_5 rfl rfl) (co rfl (kl1 rfl one3 rfl) (co rfl (kfa rfl fo26_7 rfl rfl) (co rfl (kfa rfl fo24_0 rfl rfl) (co rfl (kl1 rfl one3 rfl) (co rfl (kfa rfl fo26_7 rfl rfl) (co rfl (kfa rfl fo24_1 rfl rfl) (co rfl (kl1 rfl one3 rfl) (co rfl (kfa rfl fo26_8 rfl rfl) (co rfl (kl1 rfl one3 rfl) (co rfl (ok_buildSlice (xs := [.tmp 52, .tmp 55, .tmp 58, .tmp 60]) (rows := [[_], [_], [_], [_]]) rfl rfl Tryz.underlying22 sz3 z3 rfl (by decide) ⟨⟨(by exact rfl), (VL.le (vl rfl) (one_cellsP _))⟩, ⟨⟨(by exact rfl), (VL.le (vl rfl) (one_cellsP _))⟩, ⟨⟨(by exact rfl), (VL.le (vl rfl) (one_cellsP _))⟩, ⟨⟨(by exact rfl), (VL.le (vl rfl) (one_cellsP _))⟩, trivial⟩⟩⟩⟩ (by decide)) ?_))))))))))
 refine co rfl (ok_call rfl (w_intsC (a := [a.kind, a.alg, a.bits, a.num]) (b := [b.kind, b.alg, b.bits, b.num]) (by simp)) ⟨⟨_, rfl, full_le _ _⟩, ⟨_, rfl, full_le _ _⟩, trivial⟩) ?_
 refine cm rfl (Ch.nil (Fin.go (wk3 2 3 8 rfl (Tr.seq (Tr.reg0 (cm rfl (co rfl (ki rfl rfl rfl rfl) (Ch.nil (Fin.go ?_)))))))))
 refine Tr.cn rfl ?_ ?_ <;> intro h4 q4
 refine Tr.seq (Tr.reg0 (cm rfl (cm rfl (Ch.nil (Fin.go (Tr.ret (Fin.then_ret (Fin.ret1 rfl (OutW.bse _ _) rfl ?_))))))))
 · refine int_eq ?_; rw [ordF_eq]; rw [or_miss (by assumption), or_miss (by assumption), or_miss (by assumption)]; exact (or_hit (by assumption)).symm
 refine Tr.skip (Fin.go (Tr.seq (Tr.seq (Tr.reg0 (co rfl (kfa rfl fo26_9 rfl rfl) (co rfl (kl1 rfl one9 rfl) (co rfl (kfa rfl fo26_9 rfl rfl) (co rfl (kl1 rfl one9 rfl) (co rfl (ok_call rfl (w_texts) ⟨ke rfl, ke rfl, trivial⟩) (cm rfl (Ch.nil (Fin.go (Tr.seq (Tr.reg0 ?_))))))))))))))
 refine cm rfl (co rfl (ki rfl rfl rfl rfl) (Ch.nil (Fin.go ?_)))
 refine Tr.cn rfl ?_ ?_ <;> intro h5 q5
 refine Tr.seq (Tr.reg0 (cm rfl (cm rfl (Ch.nil (Fin.go (wk1 4 rfl (Tr.ret (Fin.then_ret (Fin.ret1 rfl (OutW.bse _ _) rfl ?_)))))))))
 · refine int_eq ?_; rw [ordF_eq]; rw [or_miss (by assumption), or_miss (by assumption), or_miss (by assumption), or_miss (by assumption)]; exact (or_hit (by assumption)).symm
 refine Tr.skip (Fin.go (Tr.seq (Tr.reg0 (co rfl (kfa rfl fo26_0 rfl rfl) (co rfl (kl1 rfl one3 rfl) (co rfl (kfa rfl fo26_4 rfl rfl) (co rfl (kl1 rfl one3 rfl) (co rfl (ok_buildSlice (xs := [.tmp 75, .tmp 77]) (rows := [[_], [_]]) rfl rfl Tryz.underlying22 sz3 z3 rfl (by decide) ⟨⟨(by exact rfl), (VL.le (vl rfl) (one_cellsP _))⟩, ⟨⟨(by exact rfl), (VL.le (vl rfl) (one_cellsP _))⟩, trivial⟩⟩ (by decide)) ?_))))))))
 refine co rfl (kfa rfl fo26_0 rfl rfl) (co rfl (kl1 rfl one3 rfl) (co rfl (kfa rfl fo26_4 rfl rfl) (co rfl (kl1 rfl one3 rfl) (co rfl (ok_buildSlice (xs := [.tmp 80, .tmp 82]) (rows := [[_], [_]]) rfl rfl Tryz.underlying22 sz3 z3 rfl (by decide) ⟨⟨(by exact rfl), (VL.le (vl rfl) (one_cellsP _))⟩, ⟨⟨(by exact rfl), (VL.le (vl rfl) (one_cellsP _))⟩, trivial⟩⟩ (by decide)) ?_))))
 refine co rfl (ok_call rfl (w_intsC (a := [a.src, a.conf]) (b := [b.src, b.conf]) (by simp)) ⟨⟨_, rfl, full_le _ _⟩, ⟨_, rfl, full_le _ _⟩, trivial⟩) ?_
 refine cm rfl (Ch.nil (Fin.go (wk1 4 rfl (Tr.ret (Fin.ret1 rfl (OutW.bse _ _) rfl ?_)))))
 · refine int_eq ?_; rw [ordF_eq, or_miss (by assumption), or_miss (by assumption), or_miss (by assumption), or_miss (by assumption), or_miss (by assumption)]; rw [intsC_2]; unfold orL; split <;> simp_all [orL]
end Go.Proofs.YtgdlhajfajddiaaGreat
