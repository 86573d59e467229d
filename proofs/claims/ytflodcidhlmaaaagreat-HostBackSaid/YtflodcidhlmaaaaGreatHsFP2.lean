/-
  Part 2 of the texts that prove this claim, merged.
-/
import Derived.ChangeArms
import Derived.OpenShut
import Derived.ChangeSame
import Derived.RowKit
import Derived.ProofKit
import Derived.Laws.MakeOwn
import Derived.Test.YtflodcidhlmaaaaGreatProg
import Derived.KernelRfl
import Derived.Lib.ConvBytes
import Derived.Lib.Bytealg
import Derived.Laws.StructEq
import Derived.Laws.Externs
import Derived.Lib.AtoiErrMem
import Derived.Laws.IdiomRangeMap
import Derived.Sort.LotA
import Derived.Sort.LotB
import Derived.Sort.LotC
import Derived.Lib.AppendZeros
import Derived.Lib.AppendZerosOnto
import Derived.Test.YtflodcidhlmaaaaGreatHsFP1
set_option linter.all false
set_option maxRecDepth 40000
set_option maxHeartbeats 16000000
namespace Cp
open Go Go.RowKit Go.Great Go.ChangeShapes Go.WideShapes

def noM : Av := fun _ _ => False
theorem noM_bd (w : World) : Bd noM w := fun _ _ h => h.elim

/-- What stands in cells of type t. -/
def Opens (P : Program) (t : TypeId) {α : Type} (ok : α → Prop) (f : α → List Pr) : Prop :=
  ∀ (H : Type) (enc : TypeId × Value → H) (w : World) (fuel : Nat) (cs : List Value) (x : DataW H × List MemPlace), DataW.trod enc P w 0 (fun _ => true) true fuel t cs = some x → ∃ a, ok a ∧ HL noM w (f a) cs ∧ ∀ c ∈ cs, c.oneCell' = true

theorem Opens.map {P : Program} {t : TypeId} {α β : Type} {ok : α → Prop} {f : α → List Pr} {ok' : β → Prop} {f' : β → List Pr} (h : Opens P t ok f) (g : α → β) (h1 : ∀ a, ok a → ok' (g a)) (h2 : ∀ a, f' (g a) = f a) : Opens P t ok' f' := by
  intro H enc w fuel cs x hx
  obtain ⟨a, h3, h4, h5⟩ := h H enc w fuel cs x hx
  exact ⟨g a, h1 a h3, by rw [h2]; exact h4, h5⟩
theorem opens_int {P : Program} {t : TypeId} {k : IntKind} (ht : P.underlying t = some (.int k)) : Opens P t (fun n : Int => (Lit.int k n).wf = true) (fun n => [is (.int k n)]) := by
  intro H enc w fuel cs x hx
  obtain ⟨n, rfl, _, hw⟩ := DataW.trod_int ht hx
  exact ⟨n, hw, ⟨rfl, trivial⟩, by simp [Value.oneCell']⟩
theorem HL.len {M : Av} {w : World} : ∀ {ps : List Pr} {vs : List Value}, HL M w ps vs → ps.length = vs.length
  | [], [], _ => rfl
  | p :: ps, v :: vs, h => by simp [HL.len h.2]
  | [], _ :: _, h => h.elim
  | _ :: _, [], h => h.elim
theorem HL.nth {M : Av} {w : World} : ∀ {ps : List Pr} {vs : List Value} (j : Nat) (p : Pr), HL M w ps vs → ps[j]? = some p → ∃ v, vs[j]? = some v ∧ p.h M w v
  | p :: ps, v :: vs, 0, q, h, hj => by simp at hj; subst hj; exact ⟨v, rfl, h.1⟩
  | p :: ps, v :: vs, j + 1, q, h, hj => by simpa using HL.nth j q h.2 (by simpa using hj)
  | [], [], _, _, _, hj => by simp at hj
  | [], _ :: _, _, _, h, _ => h.elim
  | _ :: _, [], _, _, h, _ => h.elim
theorem opens_list {H : Type} {enc : TypeId × Value → H} {P : Program} {w : World} {e : TypeId} {α : Type} {ok : α → Prop} {f : α → List Pr} (he : Opens P e ok f) {sz : Nat} (hc : P.cellsOf e = sz) {a : Addr} {m : Nat} :
    ∀ (len : Nat), (∀ i, i < len → ∃ y, (w.cells? 0 (a.add (i * sz)) sz).bind (DataW.trod enc P w 0 (fun _ => true) true m e) = some y) →
      ∃ l : List α, l.length = len ∧ (∀ z ∈ l, ok z) ∧ ∀ (i : Nat) z, l[i]? = some z → (f z).length = sz ∧ Row noM w a (i * sz) (f z)
  | 0, _ => ⟨[], rfl, by simp, by simp⟩
  | len + 1, h => by
    obtain ⟨l, h1, h2, h3⟩ := opens_list he hc len (fun i hi => h i (by omega))
    obtain ⟨y, hy⟩ := h len (by omega)
    obtain ⟨cs, hcs, hy⟩ := Option.bind_eq_some_iff.1 hy
    obtain ⟨z, hz, hl, h1c⟩ := he H enc w m cs y hy
    obtain ⟨_, hlen, hat⟩ := World.cells?_some hcs
    refine ⟨l ++ [z], by simp [h1], ?_, fun i u hu => ?_⟩
    · intro u hu
      rcases List.mem_append.1 hu with hu | hu
      · exact h2 u hu
      · rw [List.mem_singleton.1 hu]; exact hz
    · rcases Nat.lt_trichotomy i len with hi | hi | hi
      · rw [List.getElem?_append_left (by omega)] at hu
        exact h3 i u hu
      · subst hi
        rw [List.getElem?_append_right (by omega), h1] at hu
        simp at hu; subst hu
        have hfl : (f z).length = sz := by rw [hl.len, hlen]
        refine ⟨hfl, fun j p hp => ?_⟩
        obtain ⟨v, hv, hpv⟩ := hl.nth j p hp
        have hj : j < sz := by
          rcases Nat.lt_or_ge j (f z).length with h' | h'
          · omega
          · rw [List.getElem?_eq_none h'] at hp; cases hp
        refine ⟨v, ?_, fun hf => hf, h1c v (List.mem_of_getElem? hv), hpv⟩
        rw [← hv, ← hat j hj]
        rw [add_add]
      · rw [List.getElem?_eq_none (by simp [h1]; omega)] at hu; cases hu
theorem opens_slice {P : Program} {t e : TypeId} {α : Type} {ok : α → Prop} {f : α → List Pr} {sz : Nat} (ht : P.underlying t = some (.slice e)) (hc : P.cellsOf e = sz) (he : Opens P e ok f) :
    Opens P t (fun l : List α => (∀ z ∈ l, ok z) ∧ l.length ≤ maxLen) (fun l => [slice sz (l.map f)]) := by
  intro H enc w fuel cs x hx
  rcases DataW.trod_slice ht hx with ⟨rfl, _⟩ | ⟨a, len, cap, elems, rest, n, rfl, rfl, _, _, hl, hm, hel, hat, _⟩
  · exact ⟨[], ⟨by simp, by simp⟩, ⟨⟨none, 0, rfl, by simp, by simp, fun _ => rfl, by simp⟩, trivial⟩, by simp [Value.oneCell']⟩
  · obtain ⟨l, h1, h2, h3⟩ := opens_list (H := H) (enc := enc) (w := w) (a := a) (m := n) he hc len (fun i hi => by
      have := hat i hi
      rw [hc] at this
      rw [this, List.getElem?_eq_getElem (by omega)]
      exact ⟨_, rfl⟩)
    refine ⟨l, ⟨h2, by omega⟩, ⟨⟨some a, cap, by simp [h1], by simp; omega, hm, by simp, fun i row hr => ?_⟩, trivial⟩, by simp [Value.oneCell']⟩
    rw [List.getElem?_map] at hr
    cases hz : l[i]? with
    | none => rw [hz] at hr; cases hr
    | some z =>
      rw [hz] at hr; simp at hr; subst hr
      obtain ⟨h4, h5⟩ := h3 i z hz
      exact ⟨h4, a, rfl, h5⟩

/-- An argument of one cell. -/
theorem arg_one {H : Type} {enc : TypeId × Value → H} {P : Program} {w : World} {t : TypeId} {α : Type} {ok : α → Prop} {p : α → Pr} (ho : Opens P t ok (fun a => [p a])) {v : Value} {d : DataW H} {ps : List MemPlace} (h : DataW.Trod enc P w 0 (fun _ => true) true t v d ps) (hv : v.cells = #[v]) :
    ∃ a, ok a ∧ (p a).h noM w v := by
  obtain ⟨fuel, hf⟩ := h
  obtain ⟨a, h1, h2, _⟩ := ho _ _ _ _ _ _ hf
  rw [hv] at h2
  exact ⟨a, h1, h2.1⟩
theorem trodAll_below {H : Type} {enc : TypeId × Value → H} {P : Program} (hl : laidOutB P = true) {W W' : World} (hb : Below W.heap.size W W') :
    ∀ {ts : List TypeId} {vs : List Value} {ds : List (DataW H)} {ps : List MemPlace}, ts.all (fun t => P.readableRec t && decide (t < P.types.size)) = true → DataW.TrodAll enc P W 0 (fun _ => true) true ts vs ds ps → (∀ x ∈ ps, x.block < W.heap.size) →
      DataW.TrodAll enc P W' 0 (fun b => decide (b < W.heap.size)) true ts vs ds ps
  | [], vs, ds, ps, _, h, _ => by
    obtain ⟨rfl, rfl, rfl⟩ := trodAll_nil h
    rfl
  | t :: ts, vs, ds, ps, hr, h, hlt => by
    obtain ⟨v, vs', d, ds', p, q, rfl, rfl, rfl, h1, h2⟩ := trodAll_cons h
    simp only [List.all_cons, Bool.and_eq_true, decide_eq_true_eq] at hr
    exact ⟨p, q, Below.trod hl hr.1.1 hr.1.2 h1 hb (fun x hx => hlt x (List.mem_append_left _ hx)), trodAll_below hl hb (by simpa using hr.2) h2 (fun x hx => hlt x (List.mem_append_right _ hx)), rfl⟩

/-- A law that returns true and turns nothing. -/
theorem law_post {H : Type} {enc : TypeId × Value → H} {P : Program} {fn : Func} {s : ChangeSpec} {W W' : World} {args : Array Value} {ds gs : List (DataW H)} {before p : List MemPlace} {tb : TypeId} (hl : laidOutB P = true)
    (hr : fn.params.toList.all (fun t => P.readableRec t && decide (t < P.types.size)) = true) (hres : fn.resultTypes = #[tb]) (hb : P.underlying tb = some .bool) (hs : s.vars = [])
    (hA : DataW.TrodAll enc P W 0 (fun _ => true) true fn.params.toList args.toList ds p) (hp : before = p) (hW : DataW.Whole enc P fn.params.toList s.vars false W args.toList ds gs before)
    (hf : s.fn H (ds ++ gs) = { results := [.lit (.bool true)], args := ds }) (hbelow : Below W.heap.size W W') : s.post enc P fn false true false false W args (.bool true) W' := by
  subst hp
  refine ⟨ds, gs, before, [], before, [], hW, ?_, ?_, ?_, hbelow.frame _, fun h => by cases h⟩
  · rw [hf, hres]; exact trodAll_mk1 (shut_bool hb _)
  · rw [hf]; exact trodAll_below hl hbelow hr hA (fun x hx => by simpa using hW.lt x hx)
  · rw [hf, hs]; rfl
end Cp
namespace Cp
open Go Go.RowKit Go.Great

section
variable {P : Program} {n : Nat} {E : Env} {I : Asn} {Q : Exit → Act → World → Prop}
theorem Tr.loopD2V1 {α0 α1 : Type} (K : Env) (hK : SubL E K) (F : α0 → α1 → Value → Env) (Ii : α0 → α1 → Value → Asn) (C : α0 → α1 → Prop) (μ : α0 → α1 → Nat) {c : Code} (x0s : α0) (x1s : α1) (v0s : Value) (h0 : C x0s x1s) (hs : SubL E (F x0s x1s v0s)) (hI : ∀ M w, I.h M w → (Ii x0s x1s v0s).h M w)
    (round : ∀ x0 x1 v0, C x0 x1 → Tr P n (F x0 x1 v0 ++ K) (Ii x0 x1 v0) c (Exit.then (fun a w => ∃ x0' x1' v0', (C x0' x1' ∧ μ x0' x1' < μ x0 x1) ∧ St n (F x0' x1' v0' ++ K) (Ii x0' x1' v0') a w) Q)) : Tr P n E I (.loop c) Q :=
  Tr.loopR K hK (fun y : α0 × α1 × Value => F y.1 y.2.1 y.2.2) (fun y => Ii y.1 y.2.1 y.2.2) (fun y => C y.1 y.2.1) (fun y => μ y.1 y.2.1) (x0s, x1s, v0s) h0 hs hI fun y hy =>
    Tr.post (round y.1 y.2.1 y.2.2 hy) fun e a w h => by
      cases e <;> first | exact h | (obtain ⟨x0', x1', v0', h1, h2⟩ := h; exact ⟨(x0', x1', v0'), h1, h2⟩)
theorem Fin.famD2V1 {α0 α1 : Type} {E1 : α0 → α1 → Value → Env} {I1 : α0 → α1 → Value → Asn} {C : α0 → α1 → Prop} (x0 : α0) (x1 : α1) (v0 : Value) (hC : C x0 x1) (hs : SubL E (E1 x0 x1 v0)) (hI : ∀ M w, I.h M w → (I1 x0 x1 v0).h M w) :
    Fin n E I (Exit.then (fun a w => ∃ x0' x1' v0', C x0' x1' ∧ St n (E1 x0' x1' v0') (I1 x0' x1' v0') a w) Q) .normal := fun _ _ hst => ⟨x0, x1, v0, hC, hst.sub hs hI⟩
theorem Tr.loopD3V0 {α0 α1 α2 : Type} (K : Env) (hK : SubL E K) (F : α0 → α1 → α2 → Env) (Ii : α0 → α1 → α2 → Asn) (C : α0 → α1 → α2 → Prop) (μ : α0 → α1 → α2 → Nat) {c : Code} (x0s : α0) (x1s : α1) (x2s : α2)  (h0 : C x0s x1s x2s) (hs : SubL E (F x0s x1s x2s)) (hI : ∀ M w, I.h M w → (Ii x0s x1s x2s).h M w)
    (round : ∀ x0 x1 x2, C x0 x1 x2 → Tr P n (F x0 x1 x2 ++ K) (Ii x0 x1 x2) c (Exit.then (fun a w => ∃ x0' x1' x2', (C x0' x1' x2' ∧ μ x0' x1' x2' < μ x0 x1 x2) ∧ St n (F x0' x1' x2' ++ K) (Ii x0' x1' x2') a w) Q)) : Tr P n E I (.loop c) Q :=
  Tr.loopR K hK (fun y : α0 × α1 × α2 => F y.1 y.2.1 y.2.2) (fun y => Ii y.1 y.2.1 y.2.2) (fun y => C y.1 y.2.1 y.2.2) (fun y => μ y.1 y.2.1 y.2.2) (x0s, x1s, x2s) h0 hs hI fun y hy =>
    Tr.post (round y.1 y.2.1 y.2.2 hy) fun e a w h => by
      cases e <;> first | exact h | (obtain ⟨x0', x1', x2', h1, h2⟩ := h; exact ⟨(x0', x1', x2'), h1, h2⟩)
theorem Fin.famD3V0 {α0 α1 α2 : Type} {E1 : α0 → α1 → α2 → Env} {I1 : α0 → α1 → α2 → Asn} {C : α0 → α1 → α2 → Prop} (x0 : α0) (x1 : α1) (x2 : α2)  (hC : C x0 x1 x2) (hs : SubL E (E1 x0 x1 x2)) (hI : ∀ M w, I.h M w → (I1 x0 x1 x2).h M w) :
    Fin n E I (Exit.then (fun a w => ∃ x0' x1' x2', C x0' x1' x2' ∧ St n (E1 x0' x1' x2') (I1 x0' x1' x2') a w) Q) .normal := fun _ _ hst => ⟨x0, x1, x2, hC, hst.sub hs hI⟩
theorem Tr.loopD3V1 {α0 α1 α2 : Type} (K : Env) (hK : SubL E K) (F : α0 → α1 → α2 → Value → Env) (Ii : α0 → α1 → α2 → Value → Asn) (C : α0 → α1 → α2 → Prop) (μ : α0 → α1 → α2 → Nat) {c : Code} (x0s : α0) (x1s : α1) (x2s : α2) (v0s : Value) (h0 : C x0s x1s x2s) (hs : SubL E (F x0s x1s x2s v0s)) (hI : ∀ M w, I.h M w → (Ii x0s x1s x2s v0s).h M w)
    (round : ∀ x0 x1 x2 v0, C x0 x1 x2 → Tr P n (F x0 x1 x2 v0 ++ K) (Ii x0 x1 x2 v0) c (Exit.then (fun a w => ∃ x0' x1' x2' v0', (C x0' x1' x2' ∧ μ x0' x1' x2' < μ x0 x1 x2) ∧ St n (F x0' x1' x2' v0' ++ K) (Ii x0' x1' x2' v0') a w) Q)) : Tr P n E I (.loop c) Q :=
  Tr.loopR K hK (fun y : α0 × α1 × α2 × Value => F y.1 y.2.1 y.2.2.1 y.2.2.2) (fun y => Ii y.1 y.2.1 y.2.2.1 y.2.2.2) (fun y => C y.1 y.2.1 y.2.2.1) (fun y => μ y.1 y.2.1 y.2.2.1) (x0s, x1s, x2s, v0s) h0 hs hI fun y hy =>
    Tr.post (round y.1 y.2.1 y.2.2.1 y.2.2.2 hy) fun e a w h => by
      cases e <;> first | exact h | (obtain ⟨x0', x1', x2', v0', h1, h2⟩ := h; exact ⟨(x0', x1', x2', v0'), h1, h2⟩)
theorem Fin.famD3V1 {α0 α1 α2 : Type} {E1 : α0 → α1 → α2 → Value → Env} {I1 : α0 → α1 → α2 → Value → Asn} {C : α0 → α1 → α2 → Prop} (x0 : α0) (x1 : α1) (x2 : α2) (v0 : Value) (hC : C x0 x1 x2) (hs : SubL E (E1 x0 x1 x2 v0)) (hI : ∀ M w, I.h M w → (I1 x0 x1 x2 v0).h M w) :
    Fin n E I (Exit.then (fun a w => ∃ x0' x1' x2' v0', C x0' x1' x2' ∧ St n (E1 x0' x1' x2' v0') (I1 x0' x1' x2' v0') a w) Q) .normal := fun _ _ hst => ⟨x0, x1, x2, v0, hC, hst.sub hs hI⟩
end

structure DS where
  l : List Int
  at_ : Nat
  h : at_ ≤ l.length
  h2 : l.length ≤ 1000000000
def DS.val (s : DS) (n : Int) : Int := match s.l[s.at_]? with | some x => x % n | none => 0
def DS.adv (s : DS) : DS := if h : s.at_ < s.l.length then ⟨s.l, s.at_ + 1, h, s.h2⟩ else s
theorem DS.val_in (s : DS) {n : Int} (hn : 1 ≤ n) : 0 ≤ s.val n ∧ s.val n < n := by
  unfold DS.val
  split
  · exact ⟨Int.emod_nonneg _ (by omega), Int.emod_lt_of_pos _ (by omega)⟩
  · omega
theorem DS.val_end {s : DS} (h : s.l.length ≤ s.at_) (n : Int) : s.val n = 0 := by
  unfold DS.val; rw [List.getElem?_eq_none h]
theorem DS.adv_end {s : DS} (h : s.l.length ≤ s.at_) : s.adv = s := by
  unfold DS.adv; rw [dif_neg (by omega)]
theorem DS.val_at {s : DS} {x : Int} (h : s.l[s.at_]? = some x) (n : Int) : s.val n = x % n := by
  unfold DS.val; rw [h]
theorem DS.adv_at {s : DS} (h : s.at_ < s.l.length) : s.adv = ⟨s.l, s.at_ + 1, h, s.h2⟩ := by
  unfold DS.adv; rw [dif_pos h]
def dicesP (s : DS) : List Pr := [slice 1 (s.l.map fun n => [int n]), int ((s.at_ : Nat) : Int)]
def diceR (T : TypeId) (b : Nat) (s : DS) : Res := cellsRes true b T (dicesP s)
def diceEx (T : TypeId) (b : Nat) : Res := cellsEx true b T (fun _ : DS => True) dicesP
/-- Some number of a list. -/
def DS.of (s : DS) (l : List Int) : Int := (l[(s.val l.length).toNat]?).getD 0
theorem DS.of_mem (s : DS) {l : List Int} (h : l ≠ []) : s.of l ∈ l := by
  have h0 : 1 ≤ (l.length : Int) := by
    have := List.length_pos_iff.2 h
    omega
  have := s.val_in h0
  unfold DS.of
  rw [List.getElem?_eq_getElem (by omega)]
  exact List.getElem_mem _

section
variable {P : Program} {n : Nat} {E : Env} {M0 : Av} {w0 : World} {S : Nat → Prop} {rs : List Res}
theorem Tr.openD {Q : Exit → Act → World → Prop} {c : Code} (i : Nat) {T : TypeId} {b : Nat} (hi : rs[i]? = some (diceEx T b)) (k : ∀ s, Tr P n E (Hp M0 w0 S (rs.set i (diceR T b s))) c Q) : Tr P n E (Hp M0 w0 S rs) c Q :=
  Tr.openR i hi fun s _ => k s
theorem Fin.openD {Q : Exit → Act → World → Prop} {e : Exit} (i : Nat) {T : TypeId} {b : Nat} (hi : rs[i]? = some (diceEx T b)) (k : ∀ s, Fin n E (Hp M0 w0 S (rs.set i (diceR T b s))) Q e) : Fin n E (Hp M0 w0 S rs) Q e := by
  rintro a w ⟨M, h1, h2, h3, h4⟩
  have h4 : HpH M0 w0 S rs M w := h4
  obtain ⟨x, hx, hh⟩ := (h4.hold _ (List.mem_of_getElem? hi)).1
  exact k x a w ⟨M, h1, h2, h3, h4.swap1 hi rfl rfl hh⟩
theorem Fin.closeD {Q : Exit → Act → World → Prop} {e : Exit} (i : Nat) {T : TypeId} {b : Nat} (s : DS) {ps : List Pr} (hi : rs[i]? = some (cellsRes true b T ps)) (hp : ps = dicesP s) (k : Fin n E (Hp M0 w0 S (rs.set i (diceEx T b))) Q e) : Fin n E (Hp M0 w0 S rs) Q e :=
  Fin.closeR i (fun _ => True) dicesP s trivial hi hp k
theorem Tr.closeD {Q : Exit → Act → World → Prop} {c : Code} (i : Nat) {T : TypeId} {b : Nat} (s : DS) {ps : List Pr} (hi : rs[i]? = some (cellsRes true b T ps)) (hp : ps = dicesP s) (k : Tr P n E (Hp M0 w0 S (rs.set i (diceEx T b))) c Q) : Tr P n E (Hp M0 w0 S rs) c Q :=
  Tr.closeR i (fun _ => True) dicesP s trivial hi hp k

theorem TO.opn {ops : Array Oper} {l : List Oper} {Q : Exit → Act → World → Prop} (s j : Nat) {v : Value} {f : Value → Res} (g : Nat → Res) (hs : E.lookup s = some (andIs v (Cp.ex fun b => ptr b 0))) (hi : rs[j]? = some (f v)) (hf : ∀ b, f (.pointer (some ⟨b, 0, none⟩)) = g b)
    (k : ∀ b, TO P n ops l ((s, ptr b 0) :: E) (Hp M0 w0 S (rs.set j (g b))) Q) : TO P n ops l E (Hp M0 w0 S rs) Q := by
  intro k0 hl a w hst
  obtain ⟨M, h1, h2, he, h4⟩ := hst
  obtain ⟨h5, b, h6⟩ := he s _ hs
  have hv : v = .pointer (some ⟨b, 0, none⟩) := by rw [← h5]; exact h6
  have hj : rs.set j (g b) = rs := by
    have hjl : j < rs.length := by rcases Nat.lt_or_ge j rs.length with h | h; exact h; rw [List.getElem?_eq_none h] at hi; cases hi
    rw [← hf b, ← hv]
    rw [List.getElem?_eq_getElem hjl] at hi
    simp at hi
    rw [← hi, List.set_getElem_self]
  refine k b k0 hl a w ⟨M, h1, h2, ?_, by rw [hj]; exact h4⟩
  intro t q hq
  simp only [List.lookup] at hq
  by_cases ht : t = s
  · subst ht; simp at hq; subst hq; exact h6
  · rw [show (t == s) = false by simpa using ht] at hq; exact he t q hq

def rvRun (r : ResultVar) (a : Act) : Sem Value := match r with | .tmp t => pure (a.tmps.getD t undef) | .cell c t => do loadVar t (← asAddr (a.tmps.getD c undef))
def RVal (P : Program) (E : Env) (rs : List Res) (r : ResultVar) (p : Pr) : Prop := ∀ (M : Av) (w : World) (a : Act), EnvOK M w E a → (∀ q ∈ rs, q.h M w) → ∃ v, (rvRun r a).run P w = .ok v w ∧ p.h M w v
theorem RVal.tmp {t : Tmp} {q p : Pr} (h : E.lookup t = some q) (hl : Pr.le q p) : RVal P E rs (.tmp t) p := fun _ _ _ he _ => ⟨_, rfl, hl _ _ _ (he _ _ h)⟩
theorem RVal.cell (i : Nat) {c : Tmp} {t T : TypeId} {b m : Nat} {new : Bool} {ps : List Pr} {p : Pr} (h : E.lookup c = some (ptr b 0)) (hi : rs[i]? = some (cellsRes new b T ps)) (ht : aggB P t = true) (hz : sizeB P t = some m) (hm : ps.length = m) (hl : Pr.le (agg ps) p) : RVal P E rs (.cell c t) p := by
  intro M w a he hr
  obtain ⟨v, h1, h2⟩ := run_cell ht hz hm (hr _ (List.mem_of_getElem? hi))
  refine ⟨v, ?_, hl _ _ _ h2⟩
  have hc : a.tmps.getD c undef = .pointer (some ⟨b, 0, none⟩) := he _ _ h
  unfold rvRun
  simp only [hc, asAddr]
  simpa [Sem.run_bind] using h1
theorem results_rv (g : Func) (a : Act) : results g a.tmps = (do let vs ← g.results.mapM (fun r => rvRun r a); pure (if h : vs.size = 1 then vs[0] else .tuple vs)) := by
  have : (fun r : ResultVar => rvRun r a) = (fun | .tmp t => pure (a.tmps.getD t undef) | .cell c t => do loadVar t (← asAddr (a.tmps.getD c undef))) := by
    funext r; cases r <;> rfl
  rw [this]; rfl
theorem results1 {g : Func} {r : ResultVar} {a : Act} {w : World} {v : Value} (hr : g.results = #[r]) (h : (rvRun r a).run P w = .ok v w) : (results g a.tmps).run P w = .ok v w := by
  rw [results_rv, hr]; simp [Sem.run_bind, h]
theorem results2 {g : Func} {r r' : ResultVar} {a : Act} {w : World} {v v' : Value} (hr : g.results = #[r, r']) (h : (rvRun r a).run P w = .ok v w) (h' : (rvRun r' a).run P w = .ok v' w) : (results g a.tmps).run P w = .ok (.tuple #[v, v']) w := by
  rw [results_rv, hr]; simp [Sem.run_bind, h, h']
theorem results3 {g : Func} {r r' r'' : ResultVar} {a : Act} {w : World} {v v' v'' : Value} (hr : g.results = #[r, r', r'']) (h : (rvRun r a).run P w = .ok v w) (h' : (rvRun r' a).run P w = .ok v' w) (h'' : (rvRun r'' a).run P w = .ok v'' w) : (results g a.tmps).run P w = .ok (.tuple #[v, v', v'']) w := by
  rw [results_rv, hr]; simp [Sem.run_bind, h, h', h'']
theorem HpH.dropPre {M : Av} {w : World} : ∀ {pre : List Res}, HpH M0 w0 S (pre ++ rs) M w → HpH M0 w0 S rs M w
  | [], h => h
  | _ :: _, h => HpH.dropPre h.drop1
variable {g : Func} {M1 : Av} {w1 : World}
theorem Fin.retX1 {r : ResultVar} {p q : Pr} (hr : g.results = #[r]) (h : RVal P E rs r q) (hl : Pr.le q p) : Fin n E (Hp M0 w0 noS rs) (bodyPost P g (Back M0 w0 p)) .ret := by
  rintro a w ⟨M, _, hd, he, hi⟩
  obtain ⟨v, hv, hp⟩ := h M w a he (fun q hq => (hi.hold q hq).1)
  obtain ⟨h1, h2⟩ := OutW.bse M0 w0 M w hi
  exact ⟨hd, v, results1 hr hv, _, rfl, p.st _ _ _ _ _ (Ext.less h1) (hl _ _ _ hp), h2⟩
theorem Fin.retX2 {r r' : ResultVar} {p q q' : Pr} (hr : g.results = #[r, r']) (h : RVal P E rs r q) (h' : RVal P E rs r' q') (hl : Pr.le (tup [q, q']) p) : Fin n E (Hp M0 w0 noS rs) (bodyPost P g (Back M0 w0 p)) .ret := by
  rintro a w ⟨M, _, hd, he, hi⟩
  obtain ⟨v, hv, hp⟩ := h M w a he (fun q hq => (hi.hold q hq).1)
  obtain ⟨v', hv', hp'⟩ := h' M w a he (fun q hq => (hi.hold q hq).1)
  obtain ⟨h1, h2⟩ := OutW.bse M0 w0 M w hi
  exact ⟨hd, _, results2 hr hv hv', _, rfl, p.st _ _ _ _ _ (Ext.less h1) (hl _ _ _ ⟨[_, _], rfl, hp, hp', trivial⟩), h2⟩
theorem Fin.retX3 {r r' r'' : ResultVar} {p q q' q'' : Pr} (hr : g.results = #[r, r', r'']) (h : RVal P E rs r q) (h' : RVal P E rs r' q') (h'' : RVal P E rs r'' q'') (hl : Pr.le (tup [q, q', q'']) p) : Fin n E (Hp M0 w0 noS rs) (bodyPost P g (Back M0 w0 p)) .ret := by
  rintro a w ⟨M, _, hd, he, hi⟩
  obtain ⟨v, hv, hp⟩ := h M w a he (fun q hq => (hi.hold q hq).1)
  obtain ⟨v', hv', hp'⟩ := h' M w a he (fun q hq => (hi.hold q hq).1)
  obtain ⟨v'', hv'', hp''⟩ := h'' M w a he (fun q hq => (hi.hold q hq).1)
  obtain ⟨h1, h2⟩ := OutW.bse M0 w0 M w hi
  exact ⟨hd, _, results3 hr hv hv' hv'', _, rfl, p.st _ _ _ _ _ (Ext.less h1) (hl _ _ _ ⟨[_, _, _], rfl, hp, hp', hp'', trivial⟩), h2⟩
theorem Fin.retY1 (pre : List Res) {r : ResultVar} {R : Res} {R' : Value → Res} {p q : Pr} (hr : g.results = #[r]) (h : RVal P E (pre ++ R :: extRes M1 w1 :: rs) r q) (hl : Pr.le q p) (hR : ∀ M w v, q.h M w v → R' v = R) :
    Fin n E (Hp M0 w0 S (pre ++ R :: extRes M1 w1 :: rs)) (bodyPost P g (BackM M0 w0 S rs M1 w1 p R')) .ret := by
  rintro a w ⟨M, _, hd, he, hi⟩
  obtain ⟨v, hv, hp⟩ := h M w a he (fun q hq => (hi.hold q hq).1)
  obtain ⟨h1, h2⟩ := outM (HpH.dropPre hi)
  exact ⟨hd, v, results1 hr hv, _, M, rfl, hl _ _ _ hp, h1, by rw [hR _ _ _ hp]; exact h2⟩
theorem ex_in {α : Type} {p : α → Pr} {q : Pr} (x : α) (h : Pr.le q (p x)) : Pr.le q (Cp.ex p) := fun M w v hv => ⟨x, h M w v hv⟩
theorem fact_in {φ : Prop} {p q : Pr} (hφ : φ) (h : Pr.le q p) : Pr.le q (fact φ p) := fun M w v hv => ⟨hφ, h M w v hv⟩
end
end Cp
namespace Cp
open Go Go.RowKit Go.Great

section
variable {P : Program} {n : Nat} {E : Env} {M0 : Av} {w0 : World} {S : Nat → Prop} {rs : List SR} {o : Oper}
theorem ef_storeS {t : TypeId} {x : Operand} {q : Tmp} {j : Nat} {new : Bool} {b off : Nat} {T : TypeId} {ps : List Pr} {p : Pr} [One p] (hg : o.guard = none) (hd : o.dst = none) (ho : o.op = .store t x (.tmp q)) (hx : VL E x (ptr b off)) (hy : E.lookup q = some p)
    (hz : sizeB P t = some 1) (hl : off + 1 ≤ ps.length) : OpEf P M0 w0 S n j (SR.c (cellsRes new b T ps)) ⟨q, fun v => cellsRes new b T (ps.take off ++ [andIs v p] ++ ps.drop (off + 1))⟩ o E any := by
  refine ⟨hg, fun M w a rs hsz he hI hj => ?_⟩
  have h1 : a.eval x = .pointer (some ⟨b, off, none⟩) := hx.ev he (by simp [ho, Op.operands])
  have hv : VL E (.tmp q) p := ⟨_, hy, Pr.le_refl _⟩
  have hp := hv.ev he (show (Operand.tmp q) ∈ o.op.operands.toList by simp [ho, Op.operands])
  obtain ⟨h2, h3⟩ := (VL.le hv (one_cellsP p)).ev he (show (Operand.tmp q) ∈ o.op.operands.toList by simp [ho, Op.operands])
  obtain ⟨⟨_, cs, h4, h5, h6⟩, _⟩ := hI.hold _ (List.mem_of_getElem? hj)
  have h5l := h5.length
  have h2l := h2.length
  have hone : (a.eval (.tmp q)).cells = #[a.eval (.tmp q)] := (One.one (p := p) M w _ hp).1
  have h2' : HL M w [andIs (a.eval (.tmp q)) p] (a.eval (.tmp q)).cells.toList := by rw [hone]; exact ⟨⟨rfl, hp⟩, trivial⟩
  have hcells : (a.eval (.tmp q)).cells.size = 1 := by rw [hone]; rfl
  have hrun : (storeCells ⟨b, off, none⟩ (a.eval (.tmp q)).cells.toList 0).run P w = .ok () (w.setRow b (cs.take off ++ (a.eval (.tmp q)).cells.toList ++ cs.drop (off + 1)).toArray) := by
    have := run_storeCells_at (P := P) b off T (a.eval (.tmp q)).cells.toList 0 cs.toArray w h4 (by simp [hcells]; omega) h3
    simpa [hcells] using this
  have hrun2 : (execOp a.eval o).run P w = .ok .skip (w.setRow b (cs.take off ++ (a.eval (.tmp q)).cells.toList ++ cs.drop (off + 1)).toArray) := by
    simp [execOp, ho, h1, Instr.storeAt, Instr.sureAddr, storeVar, run_size hz, hcells, hrun]
  rw [hrun2]
  obtain ⟨h7, h8⟩ := HpH.write (qs := ps.take off ++ [andIs (a.eval (.tmp q)) p] ++ ps.drop (off + 1)) (cs := cs.take off ++ (a.eval (.tmp q)).cells.toList ++ cs.drop (off + 1)) hI hj ((((h5.take off).app h2')).app (h5.drop (off + 1)))
    (fun c hc => by
      simp only [List.mem_append] at hc
      rcases hc with (hc | hc) | hc
      · exact h6 c (List.mem_of_mem_take hc)
      · exact h3 c hc
      · exact h6 c (List.mem_of_mem_drop hc))
  refine ⟨M, trivial, h8, ?_⟩
  have hput : SR.at_ (a.put o.dst undef) ⟨q, fun v => cellsRes new b T (ps.take off ++ [andIs v p] ++ ps.drop (off + 1))⟩ = cellsRes new b T (ps.take off ++ [andIs (a.eval (.tmp q)) p] ++ ps.drop (off + 1)) := by rw [hd]; rfl
  rw [hput]; exact h7

theorem set_at {j s : Nat} {f : Value → Res} (hR : rs[j]? = some ⟨s, f⟩) (a : Act) : (rs.set j (SR.c (f (a.tmps.getD s undef)))).map (·.at_ a) = rs.map (·.at_ a) := by
  rw [List.map_set]
  apply List.ext_getElem?
  intro i
  rw [List.getElem?_set]
  by_cases hij : j = i
  · subst hij
    rw [if_pos rfl]
    split
    · rw [List.getElem?_map, hR]; rfl
    · rename_i hge
      rw [List.getElem?_eq_none (by omega)]
  · rw [if_neg hij]
theorem FinX.open2 {Q : Exit → Act → World → Prop} (j i s : Nat) {f g : Value → Res} {p : Pr} (hR : rs[j]? = some ⟨s, f⟩) (hR' : rs[i]? = some ⟨s, g⟩) (hij : j ≠ i) (hs : E.lookup s = some p) (k : ∀ v, FinX n M0 w0 S ((s, andIs v p) :: E) ((rs.set j (SR.c (f v))).set i (SR.c (g v))) Q) : FinX n M0 w0 S E rs Q := by
  rintro a w ⟨M, h1, h2, h3, h4⟩
  refine k (a.tmps.getD s undef) a w ⟨M, h1, h2, ?_, ?_⟩
  · intro t q hq
    simp only [List.lookup] at hq
    by_cases ht : t = s
    · subst ht; simp only [beq_self_eq_true, Option.some.injEq] at hq; subst hq; exact ⟨rfl, h3 t p hs⟩
    · rw [show (t == s) = false by simpa using ht] at hq; exact h3 t q hq
  · rw [set_at (rs := rs.set j (SR.c (f (a.tmps.getD s undef)))) (j := i) (s := s) (f := g) (by rw [List.getElem?_set, if_neg hij]; exact hR') a, set_at hR a]; exact h4
end

section
variable {P : Program} {n : Nat} {E : Env} {M0 : Av} {w0 : World} {S : Nat → Prop} {rs : List Res}
theorem St.reC (j : Nat) {new : Bool} {b : Nat} {T : TypeId} {ps qs : List Pr} (hi : rs[j]? = some (cellsRes new b T ps)) (h : LeL ps qs) {a : Act} {w : World} (hs : St n E (Hp M0 w0 S rs) a w) : St n E (Hp M0 w0 S (rs.set j (cellsRes new b T qs))) a w := by
  obtain ⟨M, h1, h2, h3, h4⟩ := hs
  have h4 : HpH M0 w0 S rs M w := h4
  obtain ⟨h5, cs, h6, h7, h8⟩ := (h4.hold _ (List.mem_of_getElem? hi)).1
  exact ⟨M, h1, h2, h3, h4.swap1 hi rfl rfl ⟨h5, cs, h6, h.hl h7, h8⟩⟩
theorem Tr.reC {Q : Exit → Act → World → Prop} {c : Code} (j : Nat) {new : Bool} {b : Nat} {T : TypeId} {ps : List Pr} (qs : List Pr) (hi : rs[j]? = some (cellsRes new b T ps)) (h : LeL ps qs) (k : Tr P n E (Hp M0 w0 S (rs.set j (cellsRes new b T qs))) c Q) : Tr P n E (Hp M0 w0 S rs) c Q :=
  Tr.conv (fun _ _ hs => hs.reC j hi h) k
theorem Fin.reC {Q : Exit → Act → World → Prop} {e : Exit} (j : Nat) {new : Bool} {b : Nat} {T : TypeId} {ps : List Pr} (qs : List Pr) (hi : rs[j]? = some (cellsRes new b T ps)) (h : LeL ps qs) (k : Fin n E (Hp M0 w0 S (rs.set j (cellsRes new b T qs))) Q e) : Fin n E (Hp M0 w0 S rs) Q e :=
  Fin.conv (fun _ _ hs => hs.reC j hi h) k
end
end Cp
namespace Cp
open Go Go.RowKit Go.Great

section
variable {P : Program} {n : Nat} {E : Env} {M0 : Av} {w0 : World} {S : Nat → Prop} {rs : List Res}

theorem okp_indexSl {I : Asn} {o : Oper} {t e : TypeId} {x y : Operand} {k : IntKind} {i : Int} {len cap sz b off : Nat} (ho : o.op = .indexAddr t x y) (ht : P.underlying t = some (.slice e)) (hz : sizeB P e = some sz) (hx : VL E x (is (.slice (some ⟨b, off, none⟩) len cap))) (hy : VL E y (is (.int k i)))
    (h0 : 0 ≤ i) (hl : i < len) : OpOK P I o E (ptr b (off + i.toNat * sz)) :=
  OpOK.same fun M w a he _ => by
    have h1 : a.eval x = _ := hx.ev he (by simp [ho, Op.operands])
    have h5 : a.eval y = .int k i := hy.ev he (by simp [ho, Op.operands])
    refine ⟨_, ?_, rfl⟩
    simp [execOp, ho, h1, h5, Instr.indexAt, asIntOf, run_underlying ht, run_size hz, h0, hl, addr_add]

theorem Tr.perm {Q : Exit → Act → World → Prop} {c : Code} {rs' : List Res} (hp : rs.Perm rs') (k : Tr P n E (Hp M0 w0 S rs') c Q) : Tr P n E (Hp M0 w0 S rs) c Q :=
  Tr.conv (fun _ _ ⟨M, h1, h2, h3, h4⟩ => ⟨M, h1, h2, h3, HpH.perm hp h4⟩) k
theorem Fin.perm {Q : Exit → Act → World → Prop} {ex : Exit} {rs' : List Res} (hp : rs.Perm rs') (k : Fin n E (Hp M0 w0 S rs') Q ex) : Fin n E (Hp M0 w0 S rs) Q ex :=
  Fin.conv (fun _ _ ⟨M, h1, h2, h3, h4⟩ => ⟨M, h1, h2, h3, HpH.perm hp h4⟩) k

end
end Cp
namespace Go.Proofs.YtflodcidhlmaaaaGreat
open Go Cp
theorem mixed : Tryz.prog.follows .mixedOrders = true := by kernel_rfl
theorem sz1 : sizeB Tryz.prog 1 = some 1 := by kernel_rfl
theorem z1 : zeroB Tryz.prog 1 = some [.nilFunc] := by kernel_rfl
theorem sz2 : sizeB Tryz.prog 2 = some 1 := by kernel_rfl
theorem sz3 : sizeB Tryz.prog 3 = some 1 := by kernel_rfl
theorem one3 : oneB Tryz.prog 3 = true := by kernel_rfl
theorem by3 : bytesB Tryz.prog 3 = some 8 := by kernel_rfl
theorem zo3 : ([.int .i64 0] : List Value).all (·.oneCell') = true := by kernel_rfl
theorem z3 : zeroB Tryz.prog 3 = some [.int .i64 0] := by kernel_rfl
theorem sz4 : sizeB Tryz.prog 4 = some 1 := by kernel_rfl
theorem one4 : oneB Tryz.prog 4 = true := by kernel_rfl
theorem sz5 : sizeB Tryz.prog 5 = some 1 := by kernel_rfl
theorem one5 : oneB Tryz.prog 5 = true := by kernel_rfl
theorem by5 : bytesB Tryz.prog 5 = some 1 := by kernel_rfl
theorem zo5 : ([.int .u8 0] : List Value).all (·.oneCell') = true := by kernel_rfl
theorem z5 : zeroB Tryz.prog 5 = some [.int .u8 0] := by kernel_rfl
theorem z6 : zeroB Tryz.prog 6 = some [.int .u8 0] := by kernel_rfl
theorem sz9 : sizeB Tryz.prog 9 = some 1 := by kernel_rfl
theorem one9 : oneB Tryz.prog 9 = true := by kernel_rfl
theorem by9 : bytesB Tryz.prog 9 = some 16 := by kernel_rfl
theorem zo9 : ([.string (ByteArray.mk #[])] : List Value).all (·.oneCell') = true := by kernel_rfl
theorem z9 : zeroB Tryz.prog 9 = some [.string (ByteArray.mk #[])] := by kernel_rfl
theorem z12 : zeroB Tryz.prog 12 = some [.int .u64 0] := by kernel_rfl
theorem z13 : zeroB Tryz.prog 13 = some [.string (ByteArray.mk #[]), .int .u64 0] := by kernel_rfl
theorem z18 : zeroB Tryz.prog 18 = some [.pointer none] := by kernel_rfl
theorem z20 : zeroB Tryz.prog 20 = some [.nilIface] := by kernel_rfl
theorem sz22 : sizeB Tryz.prog 22 = some 1 := by kernel_rfl
theorem one22 : oneB Tryz.prog 22 = true := by kernel_rfl
theorem z22 : zeroB Tryz.prog 22 = some [.slice none 0 0] := by kernel_rfl
theorem z24 : zeroB Tryz.prog 24 = some [.nilFunc] := by kernel_rfl
theorem sz27 : sizeB Tryz.prog 27 = some 1 := by kernel_rfl
theorem one27 : oneB Tryz.prog 27 = true := by kernel_rfl
theorem sz28 : sizeB Tryz.prog 28 = some 1 := by kernel_rfl
theorem one28 : oneB Tryz.prog 28 = true := by kernel_rfl
theorem sz29 : sizeB Tryz.prog 29 = some 1 := by kernel_rfl
theorem one29 : oneB Tryz.prog 29 = true := by kernel_rfl
theorem sz31 : sizeB Tryz.prog 31 = some 3 := by kernel_rfl
theorem agg31 : aggB Tryz.prog 31 = true := by kernel_rfl
theorem bl31 : ∀ ps, Tryz.prog.built 31 ps = Instr.fill (fun i => (#[(0, 1), (1, 1), (2, 1)] : Array (Nat × Nat))[i]?) ((List.replicate 3 (.slice none 0 0)) : List Value).toArray ps := by intro ps; kernel_rfl
theorem zo31 : ((List.replicate 3 (.slice none 0 0)) : List Value).all (·.oneCell') = true := by kernel_rfl
theorem z31 : zeroB Tryz.prog 31 = some (List.replicate 3 (.slice none 0 0)) := by kernel_rfl
theorem fo31_0 : fieldOff Tryz.prog 31 0 = some 0 := by kernel_rfl
theorem fo31_1 : fieldOff Tryz.prog 31 1 = some 1 := by kernel_rfl
theorem fo31_2 : fieldOff Tryz.prog 31 2 = some 2 := by kernel_rfl
theorem sz33 : sizeB Tryz.prog 33 = some 1 := by kernel_rfl
theorem one33 : oneB Tryz.prog 33 = true := by kernel_rfl
theorem sz35 : sizeB Tryz.prog 35 = some 9 := by kernel_rfl
theorem agg35 : aggB Tryz.prog 35 = true := by kernel_rfl
theorem by35 : bytesB Tryz.prog 35 = some 144 := by kernel_rfl
theorem bl35 : ∀ ps, Tryz.prog.built 35 ps = Instr.fill (fun i => (#[(0, 1), (1, 1), (2, 1), (3, 1), (4, 1), (5, 1), (6, 1), (7, 1), (8, 1)] : Array (Nat × Nat))[i]?) ([.string (ByteArray.mk #[]), .int .i64 0, .int .i64 0, .slice none 0 0, .bool false, .slice none 0 0, .slice none 0 0, .slice none 0 0, .bool false] : List Value).toArray ps := by intro ps; kernel_rfl
theorem zo35 : ([.string (ByteArray.mk #[]), .int .i64 0, .int .i64 0, .slice none 0 0, .bool false, .slice none 0 0, .slice none 0 0, .slice none 0 0, .bool false] : List Value).all (·.oneCell') = true := by kernel_rfl
theorem z35 : zeroB Tryz.prog 35 = some [.string (ByteArray.mk #[]), .int .i64 0, .int .i64 0, .slice none 0 0, .bool false, .slice none 0 0, .slice none 0 0, .slice none 0 0, .bool false] := by kernel_rfl
theorem fo35_0 : fieldOff Tryz.prog 35 0 = some 0 := by kernel_rfl
theorem fo35_1 : fieldOff Tryz.prog 35 1 = some 1 := by kernel_rfl
theorem fo35_2 : fieldOff Tryz.prog 35 2 = some 2 := by kernel_rfl
theorem fo35_3 : fieldOff Tryz.prog 35 3 = some 3 := by kernel_rfl
theorem fo35_4 : fieldOff Tryz.prog 35 4 = some 4 := by kernel_rfl
theorem fo35_5 : fieldOff Tryz.prog 35 5 = some 5 := by kernel_rfl
theorem fo35_6 : fieldOff Tryz.prog 35 6 = some 6 := by kernel_rfl
theorem fo35_7 : fieldOff Tryz.prog 35 7 = some 7 := by kernel_rfl
theorem fo35_8 : fieldOff Tryz.prog 35 8 = some 8 := by kernel_rfl
theorem sz37 : sizeB Tryz.prog 37 = some 10 := by kernel_rfl
theorem agg37 : aggB Tryz.prog 37 = true := by kernel_rfl
theorem bl37 : ∀ ps, Tryz.prog.built 37 ps = Instr.fill (fun i => (#[(0, 9), (9, 1)] : Array (Nat × Nat))[i]?) ([.string (ByteArray.mk #[]), .int .i64 0, .int .i64 0, .slice none 0 0, .bool false, .slice none 0 0, .slice none 0 0, .slice none 0 0, .bool false, .slice none 0 0] : List Value).toArray ps := by intro ps; kernel_rfl
theorem zo37 : ([.string (ByteArray.mk #[]), .int .i64 0, .int .i64 0, .slice none 0 0, .bool false, .slice none 0 0, .slice none 0 0, .slice none 0 0, .bool false, .slice none 0 0] : List Value).all (·.oneCell') = true := by kernel_rfl
theorem z37 : zeroB Tryz.prog 37 = some [.string (ByteArray.mk #[]), .int .i64 0, .int .i64 0, .slice none 0 0, .bool false, .slice none 0 0, .slice none 0 0, .slice none 0 0, .bool false, .slice none 0 0] := by kernel_rfl
theorem fo37_0 : fieldOff Tryz.prog 37 0 = some 0 := by kernel_rfl
theorem fo37_1 : fieldOff Tryz.prog 37 1 = some 9 := by kernel_rfl
theorem sz44 : sizeB Tryz.prog 44 = some 2 := by kernel_rfl
theorem agg44 : aggB Tryz.prog 44 = true := by kernel_rfl
theorem bl44 : ∀ ps, Tryz.prog.built 44 ps = Instr.fill (fun i => (#[(0, 1), (1, 1)] : Array (Nat × Nat))[i]?) ((List.replicate 2 (.int .i64 0)) : List Value).toArray ps := by intro ps; kernel_rfl
theorem zo44 : ((List.replicate 2 (.int .i64 0)) : List Value).all (·.oneCell') = true := by kernel_rfl
theorem z44 : zeroB Tryz.prog 44 = some (List.replicate 2 (.int .i64 0)) := by kernel_rfl
theorem fo44_0 : fieldOff Tryz.prog 44 0 = some 0 := by kernel_rfl
theorem fo44_1 : fieldOff Tryz.prog 44 1 = some 1 := by kernel_rfl
theorem sz45 : sizeB Tryz.prog 45 = some 1 := by kernel_rfl
theorem one45 : oneB Tryz.prog 45 = true := by kernel_rfl
theorem sz47 : sizeB Tryz.prog 47 = some 4 := by kernel_rfl
theorem agg47 : aggB Tryz.prog 47 = true := by kernel_rfl
theorem by47 : bytesB Tryz.prog 47 = some 48 := by kernel_rfl
theorem bl47 : ∀ ps, Tryz.prog.built 47 ps = Instr.fill (fun i => (#[(0, 2), (2, 1), (3, 1)] : Array (Nat × Nat))[i]?) ([.int .i64 0, .int .i64 0, .int .i64 0, .slice none 0 0] : List Value).toArray ps := by intro ps; kernel_rfl
theorem zo47 : ([.int .i64 0, .int .i64 0, .int .i64 0, .slice none 0 0] : List Value).all (·.oneCell') = true := by kernel_rfl
theorem z47 : zeroB Tryz.prog 47 = some [.int .i64 0, .int .i64 0, .int .i64 0, .slice none 0 0] := by kernel_rfl
theorem fo47_0 : fieldOff Tryz.prog 47 0 = some 0 := by kernel_rfl
theorem fo47_1 : fieldOff Tryz.prog 47 1 = some 2 := by kernel_rfl
theorem fo47_2 : fieldOff Tryz.prog 47 2 = some 3 := by kernel_rfl
theorem sz49 : sizeB Tryz.prog 49 = some 8 := by kernel_rfl
theorem agg49 : aggB Tryz.prog 49 = true := by kernel_rfl
theorem bl49 : ∀ ps, Tryz.prog.built 49 ps = Instr.fill (fun i => (#[(0, 1), (1, 1), (2, 1), (3, 1), (4, 4)] : Array (Nat × Nat))[i]?) ([.int .i64 0, .int .i64 0, .int .i64 0, .int .i64 0, .int .i64 0, .int .i64 0, .int .i64 0, .slice none 0 0] : List Value).toArray ps := by intro ps; kernel_rfl
theorem zo49 : ([.int .i64 0, .int .i64 0, .int .i64 0, .int .i64 0, .int .i64 0, .int .i64 0, .int .i64 0, .slice none 0 0] : List Value).all (·.oneCell') = true := by kernel_rfl
theorem z49 : zeroB Tryz.prog 49 = some [.int .i64 0, .int .i64 0, .int .i64 0, .int .i64 0, .int .i64 0, .int .i64 0, .int .i64 0, .slice none 0 0] := by kernel_rfl
theorem fo49_1 : fieldOff Tryz.prog 49 1 = some 1 := by kernel_rfl
theorem fo49_2 : fieldOff Tryz.prog 49 2 = some 2 := by kernel_rfl
theorem fo49_3 : fieldOff Tryz.prog 49 3 = some 3 := by kernel_rfl
theorem fo49_4 : fieldOff Tryz.prog 49 4 = some 4 := by kernel_rfl
theorem z54 : zeroB Tryz.prog 54 = some [.nilFunc] := by kernel_rfl
theorem one71 : oneB Tryz.prog 71 = true := by kernel_rfl
theorem bl82 : ∀ ps, Tryz.prog.built 82 ps = Instr.fill (fun i => (#[(0, 1), (1, 1)] : Array (Nat × Nat))[i]?) ([.slice none 0 0, .int .i64 0] : List Value).toArray ps := by intro ps; kernel_rfl
theorem zo82 : ([.slice none 0 0, .int .i64 0] : List Value).all (·.oneCell') = true := by kernel_rfl
theorem fo82_0 : fieldOff Tryz.prog 82 0 = some 0 := by kernel_rfl
theorem fo82_1 : fieldOff Tryz.prog 82 1 = some 1 := by kernel_rfl
theorem sz83 : sizeB Tryz.prog 83 = some 1 := by kernel_rfl
theorem one83 : oneB Tryz.prog 83 = true := by kernel_rfl
theorem sz88 : sizeB Tryz.prog 88 = some 2 := by kernel_rfl
theorem by88 : bytesB Tryz.prog 88 = some 16 := by kernel_rfl
theorem bl88 : ∀ ps, Tryz.prog.built 88 ps = Instr.fill (fun i => (#[(0, 1), (1, 1)] : Array (Nat × Nat))[i]?) ((List.replicate 2 (.int .i64 0)) : List Value).toArray ps := by intro ps; kernel_rfl
theorem zo88 : ((List.replicate 2 (.int .i64 0)) : List Value).all (·.oneCell') = true := by kernel_rfl
theorem z88 : zeroB Tryz.prog 88 = some (List.replicate 2 (.int .i64 0)) := by kernel_rfl
theorem sz89 : sizeB Tryz.prog 89 = some 1 := by kernel_rfl
theorem one89 : oneB Tryz.prog 89 = true := by kernel_rfl
theorem sz91 : sizeB Tryz.prog 91 = some 5 := by kernel_rfl
theorem agg91 : aggB Tryz.prog 91 = true := by kernel_rfl
theorem by91 : bytesB Tryz.prog 91 = some 64 := by kernel_rfl
theorem bl91 : ∀ ps, Tryz.prog.built 91 ps = Instr.fill (fun i => (#[(0, 1), (1, 1), (2, 1), (3, 1), (4, 1)] : Array (Nat × Nat))[i]?) ([.string (ByteArray.mk #[]), .int .i64 0, .int .i64 0, .slice none 0 0, .int .i64 0] : List Value).toArray ps := by intro ps; kernel_rfl
theorem zo91 : ([.string (ByteArray.mk #[]), .int .i64 0, .int .i64 0, .slice none 0 0, .int .i64 0] : List Value).all (·.oneCell') = true := by kernel_rfl
theorem z91 : zeroB Tryz.prog 91 = some [.string (ByteArray.mk #[]), .int .i64 0, .int .i64 0, .slice none 0 0, .int .i64 0] := by kernel_rfl
theorem fo91_3 : fieldOff Tryz.prog 91 3 = some 3 := by kernel_rfl
theorem fo91_4 : fieldOff Tryz.prog 91 4 = some 4 := by kernel_rfl
theorem sz106 : sizeB Tryz.prog 106 = some 12 := by kernel_rfl
theorem agg106 : aggB Tryz.prog 106 = true := by kernel_rfl
theorem bl106 : ∀ ps, Tryz.prog.built 106 ps = Instr.fill (fun i => (#[(0, 1), (1, 1), (2, 2), (4, 2), (6, 2), (8, 2), (10, 1), (11, 1)] : Array (Nat × Nat))[i]?) ([.int .i64 0, .string (ByteArray.mk #[]), .int .i64 0, .int .i64 0, .int .i64 0, .int .i64 0, .int .i64 0, .int .i64 0, .int .i64 0, .int .i64 0, .int .i64 0, .int .i64 0] : List Value).toArray ps := by intro ps; kernel_rfl
theorem zo106 : ([.int .i64 0, .string (ByteArray.mk #[]), .int .i64 0, .int .i64 0, .int .i64 0, .int .i64 0, .int .i64 0, .int .i64 0, .int .i64 0, .int .i64 0, .int .i64 0, .int .i64 0] : List Value).all (·.oneCell') = true := by kernel_rfl
theorem z106 : zeroB Tryz.prog 106 = some [.int .i64 0, .string (ByteArray.mk #[]), .int .i64 0, .int .i64 0, .int .i64 0, .int .i64 0, .int .i64 0, .int .i64 0, .int .i64 0, .int .i64 0, .int .i64 0, .int .i64 0] := by kernel_rfl
theorem fo106_0 : fieldOff Tryz.prog 106 0 = some 0 := by kernel_rfl
theorem sz124 : sizeB Tryz.prog 124 = some 2 := by kernel_rfl
theorem agg124 : aggB Tryz.prog 124 = true := by kernel_rfl
theorem bl124 : ∀ ps, Tryz.prog.built 124 ps = Instr.fill (fun i => (#[(0, 1), (1, 1)] : Array (Nat × Nat))[i]?) ((List.replicate 2 (.int .i64 0)) : List Value).toArray ps := by intro ps; kernel_rfl
theorem zo124 : ((List.replicate 2 (.int .i64 0)) : List Value).all (·.oneCell') = true := by kernel_rfl
theorem fo124_0 : fieldOff Tryz.prog 124 0 = some 0 := by kernel_rfl
theorem fo124_1 : fieldOff Tryz.prog 124 1 = some 1 := by kernel_rfl
theorem sz126 : sizeB Tryz.prog 126 = some 15 := by kernel_rfl
theorem agg126 : aggB Tryz.prog 126 = true := by kernel_rfl
theorem by126 : bytesB Tryz.prog 126 = some 152 := by kernel_rfl
theorem bl126 : ∀ ps, Tryz.prog.built 126 ps = Instr.fill (fun i => (#[(0, 1), (1, 1), (2, 1), (3, 2), (5, 1), (6, 2), (8, 1), (9, 1), (10, 1), (11, 1), (12, 1), (13, 2)] : Array (Nat × Nat))[i]?) ([.int .i64 0, .string (ByteArray.mk #[]), .string (ByteArray.mk #[]), .int .i64 0, .int .i64 0, .int .i64 0, .int .i64 0, .int .i64 0, .int .i64 0, .int .i64 0, .bool false, .int .i64 0, .slice none 0 0, .int .i64 0, .int .i64 0] : List Value).toArray ps := by intro ps; kernel_rfl
theorem zo126 : ([.int .i64 0, .string (ByteArray.mk #[]), .string (ByteArray.mk #[]), .int .i64 0, .int .i64 0, .int .i64 0, .int .i64 0, .int .i64 0, .int .i64 0, .int .i64 0, .bool false, .int .i64 0, .slice none 0 0, .int .i64 0, .int .i64 0] : List Value).all (·.oneCell') = true := by kernel_rfl
theorem z126 : zeroB Tryz.prog 126 = some [.int .i64 0, .string (ByteArray.mk #[]), .string (ByteArray.mk #[]), .int .i64 0, .int .i64 0, .int .i64 0, .int .i64 0, .int .i64 0, .int .i64 0, .int .i64 0, .bool false, .int .i64 0, .slice none 0 0, .int .i64 0, .int .i64 0] := by kernel_rfl
theorem fo126_0 : fieldOff Tryz.prog 126 0 = some 0 := by kernel_rfl
theorem fo126_1 : fieldOff Tryz.prog 126 1 = some 1 := by kernel_rfl
theorem fo126_2 : fieldOff Tryz.prog 126 2 = some 2 := by kernel_rfl
theorem fo126_3 : fieldOff Tryz.prog 126 3 = some 3 := by kernel_rfl
theorem fo126_4 : fieldOff Tryz.prog 126 4 = some 5 := by kernel_rfl
theorem fo126_5 : fieldOff Tryz.prog 126 5 = some 6 := by kernel_rfl
theorem fo126_6 : fieldOff Tryz.prog 126 6 = some 8 := by kernel_rfl
theorem fo126_7 : fieldOff Tryz.prog 126 7 = some 9 := by kernel_rfl
theorem fo126_8 : fieldOff Tryz.prog 126 8 = some 10 := by kernel_rfl
theorem fo126_9 : fieldOff Tryz.prog 126 9 = some 11 := by kernel_rfl
theorem fo126_10 : fieldOff Tryz.prog 126 10 = some 12 := by kernel_rfl
theorem fo126_11 : fieldOff Tryz.prog 126 11 = some 13 := by kernel_rfl
theorem sz134 : sizeB Tryz.prog 134 = some 3 := by kernel_rfl
theorem by134 : bytesB Tryz.prog 134 = some 24 := by kernel_rfl
theorem bl134 : ∀ ps, Tryz.prog.built 134 ps = Instr.fill (fun i => (#[(0, 2), (2, 1)] : Array (Nat × Nat))[i]?) ((List.replicate 3 (.int .i64 0)) : List Value).toArray ps := by intro ps; kernel_rfl
theorem zo134 : ((List.replicate 3 (.int .i64 0)) : List Value).all (·.oneCell') = true := by kernel_rfl
theorem z134 : zeroB Tryz.prog 134 = some (List.replicate 3 (.int .i64 0)) := by kernel_rfl
theorem fo134_1 : fieldOff Tryz.prog 134 1 = some 2 := by kernel_rfl
theorem sz157 : sizeB Tryz.prog 157 = some 2 := by kernel_rfl
theorem bl157 : ∀ ps, Tryz.prog.built 157 ps = Instr.fill (fun i => (#[(0, 1), (1, 1)] : Array (Nat × Nat))[i]?) ([.string (ByteArray.mk #[]), .int .i64 0] : List Value).toArray ps := by intro ps; kernel_rfl
theorem zo157 : ([.string (ByteArray.mk #[]), .int .i64 0] : List Value).all (·.oneCell') = true := by kernel_rfl
theorem z157 : zeroB Tryz.prog 157 = some [.string (ByteArray.mk #[]), .int .i64 0] := by kernel_rfl
theorem fo157_1 : fieldOff Tryz.prog 157 1 = some 1 := by kernel_rfl
theorem sz176 : sizeB Tryz.prog 176 = some 1 := by kernel_rfl
theorem one176 : oneB Tryz.prog 176 = true := by kernel_rfl
theorem sz193 : sizeB Tryz.prog 193 = some 1 := by kernel_rfl
theorem one193 : oneB Tryz.prog 193 = true := by kernel_rfl
theorem sz195 : sizeB Tryz.prog 195 = some 4 := by kernel_rfl
theorem agg195 : aggB Tryz.prog 195 = true := by kernel_rfl
theorem by195 : bytesB Tryz.prog 195 = some 64 := by kernel_rfl
theorem bl195 : ∀ ps, Tryz.prog.built 195 ps = Instr.fill (fun i => (#[(0, 1), (1, 1), (2, 1), (3, 1)] : Array (Nat × Nat))[i]?) ([.int .i64 0, .slice none 0 0, .bool false, .slice none 0 0] : List Value).toArray ps := by intro ps; kernel_rfl
theorem zo195 : ([.int .i64 0, .slice none 0 0, .bool false, .slice none 0 0] : List Value).all (·.oneCell') = true := by kernel_rfl
theorem z195 : zeroB Tryz.prog 195 = some [.int .i64 0, .slice none 0 0, .bool false, .slice none 0 0] := by kernel_rfl
theorem fo195_0 : fieldOff Tryz.prog 195 0 = some 0 := by kernel_rfl
theorem fo195_1 : fieldOff Tryz.prog 195 1 = some 1 := by kernel_rfl
theorem fo195_2 : fieldOff Tryz.prog 195 2 = some 2 := by kernel_rfl
theorem fo195_3 : fieldOff Tryz.prog 195 3 = some 3 := by kernel_rfl
theorem sz201 : sizeB Tryz.prog 201 = some 5 := by kernel_rfl
theorem agg201 : aggB Tryz.prog 201 = true := by kernel_rfl
theorem bl201 : ∀ ps, Tryz.prog.built 201 ps = Instr.fill (fun i => (#[(0, 1), (1, 1), (2, 1), (3, 1), (4, 1)] : Array (Nat × Nat))[i]?) ([.string (ByteArray.mk #[]), .int .i64 0, .int .i64 0, .slice none 0 0, .slice none 0 0] : List Value).toArray ps := by intro ps; kernel_rfl
theorem zo201 : ([.string (ByteArray.mk #[]), .int .i64 0, .int .i64 0, .slice none 0 0, .slice none 0 0] : List Value).all (·.oneCell') = true := by kernel_rfl
theorem z201 : zeroB Tryz.prog 201 = some [.string (ByteArray.mk #[]), .int .i64 0, .int .i64 0, .slice none 0 0, .slice none 0 0] := by kernel_rfl
theorem fo201_1 : fieldOff Tryz.prog 201 1 = some 1 := by kernel_rfl
theorem fo201_2 : fieldOff Tryz.prog 201 2 = some 2 := by kernel_rfl
theorem fo201_3 : fieldOff Tryz.prog 201 3 = some 3 := by kernel_rfl
theorem fo201_4 : fieldOff Tryz.prog 201 4 = some 4 := by kernel_rfl
theorem sz237 : sizeB Tryz.prog 237 = some 115 := by kernel_rfl
theorem agg237 : aggB Tryz.prog 237 = true := by kernel_rfl
theorem bl237 : ∀ ps, Tryz.prog.built 237 ps = Instr.fill (fun i => some (i * 5, 5)) ([.string (ByteArray.mk #[]), .int .i64 0, .int .i64 0, .slice none 0 0, .slice none 0 0, .string (ByteArray.mk #[]), .int .i64 0, .int .i64 0, .slice none 0 0, .slice none 0 0, .string (ByteArray.mk #[]), .int .i64 0, .int .i64 0, .slice none 0 0, .slice none 0 0, .string (ByteArray.mk #[]), .int .i64 0, .int .i64 0, .slice none 0 0, .slice none 0 0, .string (ByteArray.mk #[]), .int .i64 0, .int .i64 0, .slice none 0 0, .slice none 0 0, .string (ByteArray.mk #[]), .int .i64 0, .int .i64 0, .slice none 0 0, .slice none 0 0, .string (ByteArray.mk #[]), .int .i64 0, .int .i64 0, .slice none 0 0, .slice none 0 0, .string (ByteArray.mk #[]), .int .i64 0, .int .i64 0, .slice none 0 0, .slice none 0 0, .string (ByteArray.mk #[]), .int .i64 0, .int .i64 0, .slice none 0 0, .slice none 0 0, .string (ByteArray.mk #[]), .int .i64 0, .int .i64 0, .slice none 0 0, .slice none 0 0, .string (ByteArray.mk #[]), .int .i64 0, .int .i64 0, .slice none 0 0, .slice none 0 0, .string (ByteArray.mk #[]), .int .i64 0, .int .i64 0, .slice none 0 0, .slice none 0 0, .string (ByteArray.mk #[]), .int .i64 0, .int .i64 0, .slice none 0 0, .slice none 0 0, .string (ByteArray.mk #[]), .int .i64 0, .int .i64 0, .slice none 0 0, .slice none 0 0, .string (ByteArray.mk #[]), .int .i64 0, .int .i64 0, .slice none 0 0, .slice none 0 0, .string (ByteArray.mk #[]), .int .i64 0, .int .i64 0, .slice none 0 0, .slice none 0 0, .string (ByteArray.mk #[]), .int .i64 0, .int .i64 0, .slice none 0 0, .slice none 0 0, .string (ByteArray.mk #[]), .int .i64 0, .int .i64 0, .slice none 0 0, .slice none 0 0, .string (ByteArray.mk #[]), .int .i64 0, .int .i64 0, .slice none 0 0, .slice none 0 0, .string (ByteArray.mk #[]), .int .i64 0, .int .i64 0, .slice none 0 0, .slice none 0 0, .string (ByteArray.mk #[]), .int .i64 0, .int .i64 0, .slice none 0 0, .slice none 0 0, .string (ByteArray.mk #[]), .int .i64 0, .int .i64 0, .slice none 0 0, .slice none 0 0, .string (ByteArray.mk #[]), .int .i64 0, .int .i64 0, .slice none 0 0, .slice none 0 0] : List Value).toArray ps := by intro ps; kernel_rfl
theorem zo237 : ([.string (ByteArray.mk #[]), .int .i64 0, .int .i64 0, .slice none 0 0, .slice none 0 0, .string (ByteArray.mk #[]), .int .i64 0, .int .i64 0, .slice none 0 0, .slice none 0 0, .string (ByteArray.mk #[]), .int .i64 0, .int .i64 0, .slice none 0 0, .slice none 0 0, .string (ByteArray.mk #[]), .int .i64 0, .int .i64 0, .slice none 0 0, .slice none 0 0, .string (ByteArray.mk #[]), .int .i64 0, .int .i64 0, .slice none 0 0, .slice none 0 0, .string (ByteArray.mk #[]), .int .i64 0, .int .i64 0, .slice none 0 0, .slice none 0 0, .string (ByteArray.mk #[]), .int .i64 0, .int .i64 0, .slice none 0 0, .slice none 0 0, .string (ByteArray.mk #[]), .int .i64 0, .int .i64 0, .slice none 0 0, .slice none 0 0, .string (ByteArray.mk #[]), .int .i64 0, .int .i64 0, .slice none 0 0, .slice none 0 0, .string (ByteArray.mk #[]), .int .i64 0, .int .i64 0, .slice none 0 0, .slice none 0 0, .string (ByteArray.mk #[]), .int .i64 0, .int .i64 0, .slice none 0 0, .slice none 0 0, .string (ByteArray.mk #[]), .int .i64 0, .int .i64 0, .slice none 0 0, .slice none 0 0, .string (ByteArray.mk #[]), .int .i64 0, .int .i64 0, .slice none 0 0, .slice none 0 0, .string (ByteArray.mk #[]), .int .i64 0, .int .i64 0, .slice none 0 0, .slice none 0 0, .string (ByteArray.mk #[]), .int .i64 0, .int .i64 0, .slice none 0 0, .slice none 0 0, .string (ByteArray.mk #[]), .int .i64 0, .int .i64 0, .slice none 0 0, .slice none 0 0, .string (ByteArray.mk #[]), .int .i64 0, .int .i64 0, .slice none 0 0, .slice none 0 0, .string (ByteArray.mk #[]), .int .i64 0, .int .i64 0, .slice none 0 0, .slice none 0 0, .string (ByteArray.mk #[]), .int .i64 0, .int .i64 0, .slice none 0 0, .slice none 0 0, .string (ByteArray.mk #[]), .int .i64 0, .int .i64 0, .slice none 0 0, .slice none 0 0, .string (ByteArray.mk #[]), .int .i64 0, .int .i64 0, .slice none 0 0, .slice none 0 0, .string (ByteArray.mk #[]), .int .i64 0, .int .i64 0, .slice none 0 0, .slice none 0 0, .string (ByteArray.mk #[]), .int .i64 0, .int .i64 0, .slice none 0 0, .slice none 0 0] : List Value).all (·.oneCell') = true := by kernel_rfl
theorem z237 : zeroB Tryz.prog 237 = some [.string (ByteArray.mk #[]), .int .i64 0, .int .i64 0, .slice none 0 0, .slice none 0 0, .string (ByteArray.mk #[]), .int .i64 0, .int .i64 0, .slice none 0 0, .slice none 0 0, .string (ByteArray.mk #[]), .int .i64 0, .int .i64 0, .slice none 0 0, .slice none 0 0, .string (ByteArray.mk #[]), .int .i64 0, .int .i64 0, .slice none 0 0, .slice none 0 0, .string (ByteArray.mk #[]), .int .i64 0, .int .i64 0, .slice none 0 0, .slice none 0 0, .string (ByteArray.mk #[]), .int .i64 0, .int .i64 0, .slice none 0 0, .slice none 0 0, .string (ByteArray.mk #[]), .int .i64 0, .int .i64 0, .slice none 0 0, .slice none 0 0, .string (ByteArray.mk #[]), .int .i64 0, .int .i64 0, .slice none 0 0, .slice none 0 0, .string (ByteArray.mk #[]), .int .i64 0, .int .i64 0, .slice none 0 0, .slice none 0 0, .string (ByteArray.mk #[]), .int .i64 0, .int .i64 0, .slice none 0 0, .slice none 0 0, .string (ByteArray.mk #[]), .int .i64 0, .int .i64 0, .slice none 0 0, .slice none 0 0, .string (ByteArray.mk #[]), .int .i64 0, .int .i64 0, .slice none 0 0, .slice none 0 0, .string (ByteArray.mk #[]), .int .i64 0, .int .i64 0, .slice none 0 0, .slice none 0 0, .string (ByteArray.mk #[]), .int .i64 0, .int .i64 0, .slice none 0 0, .slice none 0 0, .string (ByteArray.mk #[]), .int .i64 0, .int .i64 0, .slice none 0 0, .slice none 0 0, .string (ByteArray.mk #[]), .int .i64 0, .int .i64 0, .slice none 0 0, .slice none 0 0, .string (ByteArray.mk #[]), .int .i64 0, .int .i64 0, .slice none 0 0, .slice none 0 0, .string (ByteArray.mk #[]), .int .i64 0, .int .i64 0, .slice none 0 0, .slice none 0 0, .string (ByteArray.mk #[]), .int .i64 0, .int .i64 0, .slice none 0 0, .slice none 0 0, .string (ByteArray.mk #[]), .int .i64 0, .int .i64 0, .slice none 0 0, .slice none 0 0, .string (ByteArray.mk #[]), .int .i64 0, .int .i64 0, .slice none 0 0, .slice none 0 0, .string (ByteArray.mk #[]), .int .i64 0, .int .i64 0, .slice none 0 0, .slice none 0 0, .string (ByteArray.mk #[]), .int .i64 0, .int .i64 0, .slice none 0 0, .slice none 0 0] := by kernel_rfl
theorem sz259 : sizeB Tryz.prog 259 = some 2 := by kernel_rfl
theorem agg259 : aggB Tryz.prog 259 = true := by kernel_rfl
theorem bl259 : ∀ ps, Tryz.prog.built 259 ps = Instr.fill (fun i => some (i * 1, 1)) ((List.replicate 2 (.int .i64 0)) : List Value).toArray ps := by intro ps; kernel_rfl
theorem zo259 : ((List.replicate 2 (.int .i64 0)) : List Value).all (·.oneCell') = true := by kernel_rfl
theorem z259 : zeroB Tryz.prog 259 = some (List.replicate 2 (.int .i64 0)) := by kernel_rfl
theorem bl260 : ∀ ps, Tryz.prog.built 260 ps = Instr.fill (fun i => some (i * 2, 2)) ((List.replicate 10 (.int .i64 0)) : List Value).toArray ps := by intro ps; kernel_rfl
theorem zo260 : ((List.replicate 10 (.int .i64 0)) : List Value).all (·.oneCell') = true := by kernel_rfl
end Go.Proofs.YtflodcidhlmaaaaGreat
namespace Cp
open Go Go.RowKit Go.Great

section
variable {P : Program} {n : Nat} {E : Env} {M0 : Av} {w0 : World} {S : Nat → Prop} {rs : List Res} {o : Oper}

/-- A slice of m elements. -/
def lens (m : Nat) : Pr where
  h _ _ v := ∃ a c, v = .slice a m c
  st _M _w _M' _w' _v _ h := h
instance one_lens (m : Nat) : One (lens m) := ⟨by rintro M w v ⟨a, c, rfl⟩; exact ⟨rfl, rfl⟩⟩
/-- The elements of this slice are ours, and what lies behind them. -/
def mutRes (e : TypeId) (sz : Nat) (rows : List (List Pr)) (v : Value) : Res where
  blk := match v with | .slice (some a) _ _ => some a.block | _ => none
  new := true
  h M w := ∃ (b cap : Nat) (spare : List Value), v = .slice (some ⟨b, 0, none⟩) rows.length cap ∧ rows.length ≤ cap ∧ cap ≤ maxLen ∧ spare.length = (cap - rows.length) * sz ∧ (cellsRes true b e (rows.flatten ++ spare.map is)).h M w
  st M w M' w' he hk h := by
    obtain ⟨b, cap, spare, rfl, h1, h2, h3, h4⟩ := h
    exact ⟨b, cap, spare, rfl, h1, h2, h3, (cellsRes true b e _).st _ _ _ _ he hk h4⟩

theorem flat_at {sz : Nat} : ∀ {rows : List (List Pr)} {i j : Nat} {row : List Pr}, (∀ r ∈ rows, r.length = sz) → rows[i]? = some row → j < sz → rows.flatten[i * sz + j]? = row[j]?
  | [], _, _, _, _, h, _ => by simp at h
  | a :: l, 0, j, row, hl, h, hj => by
    simp at h; subst h
    have := hl a (by simp)
    rw [List.flatten_cons, Nat.zero_mul, Nat.zero_add, List.getElem?_append_left (by omega)]
  | a :: l, i + 1, j, row, hl, h, hj => by
    have h1 := hl a (by simp)
    rw [List.flatten_cons, Nat.succ_mul, List.getElem?_append_right (by omega), h1, show i * sz + sz + j - sz = i * sz + j by omega]
    exact flat_at (fun r hr => hl r (List.mem_cons_of_mem _ hr)) (by simpa using h) hj
theorem flat_len {sz : Nat} : ∀ {rows : List (List Pr)}, (∀ r ∈ rows, r.length = sz) → rows.flatten.length = rows.length * sz
  | [], _ => by simp
  | a :: l, h => by
    rw [List.flatten_cons, List.length_append, flat_len (fun r hr => h r (List.mem_cons_of_mem _ hr)), h a (by simp), List.length_cons, Nat.succ_mul]; omega
theorem hl_of {M : Av} {w : World} : ∀ {ps : List Pr} {vs : List Value}, vs.length = ps.length → (∀ (k : Nat) p, ps[k]? = some p → ∃ u, vs[k]? = some u ∧ p.h M w u) → HL M w ps vs
  | [], [], _, _ => trivial
  | [], _ :: _, h, _ => by simp at h
  | _ :: _, [], h, _ => by simp at h
  | p :: ps, v :: vs, h, hk => by
    refine ⟨?_, hl_of (by simpa using h) fun k q hq => by simpa using hk (k + 1) q (by simpa using hq)⟩
    obtain ⟨u, hu, hp⟩ := hk 0 p rfl
    simp at hu; subst hu; exact hp
theorem Flat.hl {M : Av} {w : World} {sz : Nat} {rows : List (List Pr)} {news : List Value} (hsz : 0 < sz) (h : Flat M w sz rows news) : HL M w rows.flatten news := by
  have hl : ∀ r ∈ rows, r.length = sz := fun r hr => by obtain ⟨i, hi⟩ := List.mem_iff_getElem?.1 hr; exact (h.2.2 i r hi).1
  refine hl_of (by rw [h.1, flat_len hl]) fun k p hk => ?_
  have hkl : k < rows.length * sz := by rw [← flat_len hl]; rcases Nat.lt_or_ge k rows.flatten.length with h | h; exact h; rw [List.getElem?_eq_none h] at hk; cases hk
  have hi : k / sz < rows.length := Nat.div_lt_of_lt_mul (by rw [Nat.mul_comm]; exact hkl)
  have hj : k % sz < sz := Nat.mod_lt _ hsz
  have he : k / sz * sz + k % sz = k := by rw [Nat.mul_comm]; exact Nat.div_add_mod k sz
  have hr := List.getElem?_eq_getElem hi
  rw [← he, flat_at hl hr hj] at hk
  obtain ⟨u, hu, hp⟩ := (h.2.2 _ _ hr).2 _ p hk
  exact ⟨u, by rw [← he]; exact hu, hp⟩
theorem HL.flat {M : Av} {w : World} {sz : Nat} {rows : List (List Pr)} {qs : List Pr} {cs : List Value} (hl : ∀ r ∈ rows, r.length = sz) (h : HL M w (rows.flatten ++ qs) cs) (h1 : ∀ c ∈ cs, c.oneCell' = true) : Flat M w sz rows (cs.take (rows.length * sz)) := by
  have hfl := flat_len hl
  have hlen := h.length
  refine ⟨by rw [List.length_take, hlen, List.length_append, hfl]; omega, fun u hu => h1 u (List.mem_of_mem_take hu), fun i row hi => ?_⟩
  have hrl := hl row (List.mem_of_getElem? hi)
  refine ⟨hrl, fun j p hp => ?_⟩
  have hjl : j < sz := by rw [← hrl]; rcases Nat.lt_or_ge j row.length with h | h; exact h; rw [List.getElem?_eq_none h] at hp; cases hp
  have hil : i < rows.length := by rcases Nat.lt_or_ge i rows.length with h | h; exact h; rw [List.getElem?_eq_none h] at hi; cases hi
  have hlt : i * sz + j < rows.length * sz := by have : (i + 1) * sz ≤ rows.length * sz := Nat.mul_le_mul_right sz hil; rw [Nat.add_mul] at this; omega
  obtain ⟨u, hu, hh⟩ := h.at_ (i * sz + j) p (by rw [List.getElem?_append_left (by rw [hfl]; exact hlt), flat_at hl hi hjl]; exact hp)
  exact ⟨u, by rw [List.getElem?_take, if_pos hlt]; exact hu, hh⟩
theorem zeroCells_one {zs : List Value} {z : Array Value} {k : Nat} (hz : z.toList = zs) (h1 : zs.all (·.oneCell') = true) : ∀ c ∈ (Builtin.zeroCells z k).toList, c.oneCell' = true := by
  intro c hc
  simp only [Builtin.zeroCells, Array.toList_map, Array.toList_range, List.mem_map, List.mem_range] at hc
  obtain ⟨i, hi, rfl⟩ := hc
  have hpos : 0 < z.size := by rcases Nat.eq_zero_or_pos z.size with h | h; rw [h] at hi; simp at hi; exact h
  have hm : i % z.size < z.size := Nat.mod_lt _ hpos
  rw [getElem!_pos z _ hm]
  exact List.all_eq_true.1 h1 _ (by rw [← hz]; simp)

/-- Where it lies. -/
theorem St.openM {e : TypeId} {sz : Nat} {rows : List (List Pr)} {v : Value} (j : Nat) (hj : rs[j]? = some (mutRes e sz rows v)) {a : Act} {w : World} (h : St n E (Hp M0 w0 S rs) a w) :
    ∃ (b cap : Nat) (spare : List Value), v = .slice (some ⟨b, 0, none⟩) rows.length cap ∧ rows.length ≤ cap ∧ cap ≤ maxLen ∧ spare.length = (cap - rows.length) * sz ∧ St n E (Hp M0 w0 S (rs.set j (cellsRes true b e (rows.flatten ++ spare.map is)))) a w := by
  obtain ⟨M, h1, h2, h3, h4⟩ := h
  have h4 : HpH M0 w0 S rs M w := h4
  obtain ⟨b, cap, spare, rfl, h5, h6, h7, h8⟩ := (h4.hold _ (List.mem_of_getElem? hj)).1
  exact ⟨b, cap, spare, rfl, h5, h6, h7, M, h1, h2, h3, h4.swap1 hj rfl rfl h8⟩
theorem Tr.openM {Q : Exit → Act → World → Prop} {c : Code} {e : TypeId} {sz : Nat} {rows : List (List Pr)} {v : Value} (j : Nat) (hj : rs[j]? = some (mutRes e sz rows v))
    (k : ∀ (b cap : Nat) (spare : List Value), v = .slice (some ⟨b, 0, none⟩) rows.length cap → rows.length ≤ cap → cap ≤ maxLen → spare.length = (cap - rows.length) * sz → Tr P n E (Hp M0 w0 S (rs.set j (cellsRes true b e (rows.flatten ++ spare.map is)))) c Q) : Tr P n E (Hp M0 w0 S rs) c Q :=
  fun a w hs => let ⟨b, cap, spare, h1, h2, h3, h4, h5⟩ := hs.openM j hj; k b cap spare h1 h2 h3 h4 a w h5
theorem Fin.openM {Q : Exit → Act → World → Prop} {ex : Exit} {e : TypeId} {sz : Nat} {rows : List (List Pr)} {v : Value} (j : Nat) (hj : rs[j]? = some (mutRes e sz rows v))
    (k : ∀ (b cap : Nat) (spare : List Value), v = .slice (some ⟨b, 0, none⟩) rows.length cap → rows.length ≤ cap → cap ≤ maxLen → spare.length = (cap - rows.length) * sz → Fin n E (Hp M0 w0 S (rs.set j (cellsRes true b e (rows.flatten ++ spare.map is)))) Q ex) : Fin n E (Hp M0 w0 S rs) Q ex :=
  fun a w hs => let ⟨b, cap, spare, h1, h2, h3, h4, h5⟩ := hs.openM j hj; k b cap spare h1 h2 h3 h4 a w h5

/-- Nobody turns its elements any more; there may be room behind them. -/
theorem HpH.frz {M : Av} {w : World} {b cap sz : Nat} {e : TypeId} {rows : List (List Pr)} {qs : List Pr} {j : Nat} (h : HpH M0 w0 S rs M w) (hj : rs[j]? = some (cellsRes true b e (rows.flatten ++ qs))) (hl : ∀ r ∈ rows, r.length = sz) (hc : rows.length ≤ cap) (hm : cap ≤ maxLen) (hq : qs.length = (cap - rows.length) * sz) :
    ∃ M', Ext M w M' w ∧ HpH M0 w0 S (rs.set j (appRes e sz (.slice (some ⟨b, 0, none⟩) rows.length cap))) M' w ∧ (slice sz rows).h M' w (.slice (some ⟨b, 0, none⟩) rows.length cap) := by
  obtain ⟨⟨hM, cs, hh, hcs, hone⟩, hbb⟩ := h.hold _ (List.mem_of_getElem? hj)
  have hbl := (hbb b rfl).1
  have hfl := HL.flat hl hcs hone
  have hlen := hcs.length
  rw [List.length_append, flat_len hl, hq, ← Nat.add_mul, show rows.length + (cap - rows.length) = cap by omega] at hlen
  have he : Ext M w (fun b' o => M b' o ∧ ¬ (b' = b ∧ o < rows.length * sz)) w := Ext.less fun _ _ h => h.1
  refine ⟨_, he, ?_, slice_of_flat (hfl.st he) hc hm fun k u hk => ?_⟩
  · refine h.replace hj he rfl rfl rfl (fun _ _ _ => rfl) rfl (fun b' o hm' hne => ⟨hm', fun hx => hne (by rw [hx.1]; rfl)⟩) (fun b' o hx => h.bd _ _ hx.1) ?_ rfl (fun b' hbk => ?_)
    · intro a' n' c' hv hlt
      injection hv with e1 e2 e3
      injection e1 with e1
      subst e1; subst e2; subst e3
      refine ⟨⟨cs.take (rows.length * sz), hfl.1, .inr ⟨b, cap, cs.toArray, rfl, Nat.zero_le _, hh, hc, hm, by simpa using hlen, by simp⟩⟩, fun o ho => ⟨hM o, fun hx => by omega⟩⟩
    · have hbk' : appBlk (.slice (some ⟨b, 0, none⟩) rows.length cap) = some b' := hbk
      simp only [appBlk] at hbk'
      split at hbk'
      · simp at hbk'; subst hbk'; exact ⟨hbl, .inl rfl⟩
      · cases hbk'
  · have hkl : k < rows.length * sz := by rw [← hfl.1]; rcases Nat.lt_or_ge k (cs.take (rows.length * sz)).length with h | h; exact h; rw [List.getElem?_eq_none h] at hk; cases hk
    rw [List.getElem?_take, if_pos hkl] at hk
    exact ⟨by simp [World.cell?, hh, hk], fun hx => hx.2 ⟨rfl, hkl⟩⟩
end
end Cp
namespace Cp
open Go Go.RowKit Go.Great

/-- This text. -/
abbrev str (l : List UInt8) : Pr := is (.string ⟨l.toArray⟩)
theorem str_toList (l : List UInt8) : (ByteArray.mk l.toArray).toList = l := by rw [ByteArray.toList_eq]
theorem str_size (l : List UInt8) : (ByteArray.mk l.toArray).size = l.length := rfl
section
variable {P : Program} {E : Env} {I : Asn} {o : Oper}
theorem ok_eqs {t u : TypeId} {x y : Operand} {a b : List UInt8} (ho : o.op = .binOp .eql t x y u) (hx : VL E x (str a)) (hy : VL E y (str b)) : OpOK P I o E (bool (decide (a = b))) :=
  OpOK.same fun M w ac he _ => by
    have h1 : ac.eval x = _ := hx.ev he (by simp [ho, Op.operands])
    have h2 : ac.eval y = _ := hy.ev he (by simp [ho, Op.operands])
    refine ⟨_, by simp [execOp, ho, h1, h2, eqGuard, binOp, Op.stringOp, str_toList]; rfl, ?_⟩
    show Value.bool _ = Value.bool _
    congr 1
    rw [Bool.eq_iff_iff]; simp
theorem ok_nes {t u : TypeId} {x y : Operand} {a b : List UInt8} (ho : o.op = .binOp .neq t x y u) (hx : VL E x (str a)) (hy : VL E y (str b)) : OpOK P I o E (bool (!decide (a = b))) :=
  OpOK.same fun M w ac he _ => by
    have h1 : ac.eval x = _ := hx.ev he (by simp [ho, Op.operands])
    have h2 : ac.eval y = _ := hy.ev he (by simp [ho, Op.operands])
    refine ⟨_, by simp [execOp, ho, h1, h2, eqGuard, binOp, Op.stringOp, str_toList]; rfl, ?_⟩
    show Value.bool _ = Value.bool _
    congr 1
    rw [Bool.eq_iff_iff]; simp

theorem cmp_less : ∀ (a b : List UInt8), Op.bytesLess a b = decide (Lib.compareBytes a b = -1)
  | _, [] => by cases ‹List UInt8› <;> simp [Op.bytesLess, Lib.compareBytes]
  | [], _ :: _ => by simp [Op.bytesLess, Lib.compareBytes]
  | a :: x, b :: y => by
    rw [Op.bytesLess, cmp_less x y, Lib.compareBytes]
    by_cases h1 : a < b
    · simp [h1]
    · by_cases h2 : b < a
      · have h3 : a ≠ b := fun e => by subst e; exact h1 h2
        simp [h1, h2, h3]
      · have h3 : a = b := UInt8.le_antisymm (UInt8.not_lt.1 h2) (UInt8.not_lt.1 h1)
        simp [h1, h2, h3]
theorem ok_ges {t u : TypeId} {x y : Operand} {a b : List UInt8} (ho : o.op = .binOp .geq t x y u) (hx : VL E x (str a)) (hy : VL E y (str b)) : OpOK P I o E (bool (!decide (Lib.compareBytes a b = -1))) :=
  OpOK.same fun M w ac he _ => by
    have h1 : ac.eval x = _ := hx.ev he (by simp [ho, Op.operands])
    have h2 : ac.eval y = _ := hy.ev he (by simp [ho, Op.operands])
    exact ⟨_, by simp [execOp, ho, h1, h2, eqGuard, binOp, Op.stringOp, str_toList, cmp_less], rfl⟩
theorem ok_lens {t : TypeId} {x : Operand} {a : List UInt8} (ho : o.op = .call { callee := .builtin .len, args := #[x], argTypes := #[t] }) (ht : P.underlying t = some .string) (hx : VL E x (str a)) : OpOK P I o E (int ((a.length : Nat) : Int)) :=
  OpOK.same fun M w ac he _ => by
    have h1 : ac.eval x = _ := hx.ev he (by simp [ho, Op.operands, Call.operands])
    exact ⟨.int .i64 a.length, by simp [execOp, ho, resolve, invoke, builtin, Builtin.len_, h1, run_underlying ht, goInt, str_size], rfl⟩
theorem ok_sidx {t : TypeId} {x y : Operand} {k : IntKind} {a : List UInt8} {i : Int} {c : UInt8} (ho : o.op = .index t x y) (ht : P.underlying t = some .string) (hx : VL E x (str a)) (hy : VL E y (is (.int k i))) (h0 : 0 ≤ i) (hc : a[i.toNat]? = some c) : OpOK P I o E (is (.int .u8 c.toNat)) :=
  OpOK.same fun M w ac he _ => by
    have h1 : ac.eval x = _ := hx.ev he (by simp [ho, Op.operands])
    have h2 : ac.eval y = _ := hy.ev he (by simp [ho, Op.operands])
    refine ⟨_, ?_, rfl⟩
    have hlt : i.toNat < a.length := by rcases Nat.lt_or_ge i.toNat a.length with h | h; exact h; rw [List.getElem?_eq_none h] at hc; cases hc
    have h3 : (ByteArray.mk a.toArray)[i.toNat]? = some c := by
      rw [getElem?_pos (ByteArray.mk a.toArray) i.toNat (by rw [str_size]; exact hlt)]
      rw [List.getElem?_eq_getElem hlt] at hc
      simp only [Option.some.injEq] at hc
      rw [← hc]
      rfl
    simp [execOp, ho, h1, h2, Instr.index, asIntOf, run_underlying ht, h0, h3]
theorem ok_bytes {s t e : TypeId} {x : Operand} {a : List UInt8} (ho : o.op = .convert s t x) (hs : P.underlying s = some .string) (ht : P.underlying t = some (.slice e)) (he : P.underlying e = some (.int .u8)) (hx : VL E x (str a)) (hm : a.length ≤ maxLen) : OpOK P I o E (slice 1 (a.map fun c => [is (.int .u8 c.toNat)])) :=
  OpOK.val fun M w ac hev hI => by
    have h1 : ac.eval x = _ := hx.ev hev (by simp [ho, Op.operands])
    have hrun := Lib.run_convert_string_bytes (P := P) w s t e ⟨a.toArray⟩ hs ht he
    have hcap := grownCap_ge w a.length 0 e
    have hcm := grownCap_le_maxLen w a.length 0 e hm
    refine ⟨.slice (some ⟨w.heap.size, 0, none⟩) a.length (grownCap w a.length 0 e), Lib.bytesWorld w e ⟨a.toArray⟩, by simp [execOp, ho, h1, hrun]; exact ⟨rfl, rfl⟩, ?_, ?_⟩
    · have hbd : Bd M w := I.bd _ _ hI
      refine ⟨_, grownCap w a.length 0 e, by rw [List.length_map], by rw [List.length_map]; exact hcap, hcm, (fun h => by cases h), fun i row hr => ?_⟩
      rw [List.getElem?_map] at hr
      cases hc : a[i]? with
      | none => rw [hc] at hr; cases hr
      | some c =>
        rw [hc] at hr
        simp only [Option.map_some, Option.some.injEq] at hr
        subst hr
        have hil : i < a.length := by rcases Nat.lt_or_ge i a.length with h | h; exact h; rw [List.getElem?_eq_none h] at hc; cases hc
        refine ⟨rfl, _, rfl, fun j p hp => ?_⟩
        have hj : j = 0 := by
          rcases Nat.eq_zero_or_pos j with h | h
          · exact h
          · rw [List.getElem?_eq_none (by simp; omega)] at hp; cases hp
        subst hj
        simp only [List.getElem?_cons_zero, Option.some.injEq] at hp
        subst hp
        refine ⟨.int .u8 c.toNat, ?_, fun hmm => ?_, rfl, rfl⟩
        · rw [show Addr.add ⟨w.heap.size, 0, none⟩ (i * 1 + 0) = ⟨w.heap.size, i, none⟩ by unfold Addr.add; split <;> simp_all]
          rw [Lib.bytesWorld_cell w e ⟨a.toArray⟩ i (by rw [str_size]; exact hil)]
          have : ([] ++ a).getD i 0 = c := by simp [hc]
          simp [hc]
        · have := hbd _ _ hmm; simp at this
    · exact Lib.bytesWorld_below w e ⟨a.toArray⟩

theorem sidx_at {a : List UInt8} {k : Nat} {c : UInt8} (h : a[k]? = some c) : a[((k : Nat) : Int).toNat]? = some c := h

theorem ok_index {t e : TypeId} {x y : Operand} {k : IntKind} {i : Int} {len sz : Nat} {ps qs : List Pr} (ho : o.op = .index t x y) (ht : P.underlying t = some (.array len e)) (he : aggB P e = true) (hz : sizeB P e = some sz) (hx : VL E x (agg ps)) (hy : VL E y (is (.int k i))) (h0 : 0 ≤ i) (hl : i < len)
    (hq : (ps.drop (i.toNat * sz)).take sz = qs) : OpOK P I o E (agg qs) :=
  OpOK.same fun M w ac hev _ => by
    obtain ⟨cs, h1, ho1, h2⟩ := hx.ev hev (by simp [ho, Op.operands])
    have h3 : ac.eval y = _ := hy.ev hev (by simp [ho, Op.operands])
    refine ⟨.agg (cs.toArray.extract (i.toNat * sz) (i.toNat * sz + sz)), ?_, (cs.drop (i.toNat * sz)).take sz, ?_, fun c hc => ho1 c (List.mem_of_mem_drop (List.mem_of_mem_take hc)), by rw [← hq]; exact (h2.drop _).take _⟩
    · simp [execOp, ho, h1, h3, Instr.index, asIntOf, run_underlying ht, h0, hl, run_size hz, part, run_isAgg_agg he]
    · congr 1
      apply Array.toList_inj.1
      simp [List.extract, Nat.add_sub_cancel_left]

theorem agg_is {M : Av} {w : World} {v : Value} {xs : List Value} (h : (agg (xs.map is)).h M w v) : v = .agg xs.toArray := by
  obtain ⟨cs, rfl, ho, h2⟩ := h
  congr 1
  have : cs = xs := by
    clear ho
    induction xs generalizing cs with
    | nil => cases cs with
      | nil => rfl
      | cons c cs => exact h2.elim
    | cons x xs ih => cases cs with
      | nil => exact h2.elim
      | cons c cs => rw [ih cs h2.2, show c = x from h2.1]
  rw [this]
theorem ok_eqagg {t u : TypeId} {x y : Operand} {r : Bool} (xs ys : List Value) (ho : o.op = .binOp .eql t x y u) (hx : VL E x (agg (xs.map is))) (hy : VL E y (agg (ys.map is))) (hg : P.eqGuardType P.depth t = false) (hr : ∀ w, (Op.equal t (.agg xs.toArray) (.agg ys.toArray)).run P w = .ok r w) : OpOK P I o E (bool r) :=
  OpOK.same fun M w ac he _ => by
    have h1 := agg_is (hx.ev he (by simp [ho, Op.operands]))
    have h2 := agg_is (hy.ev he (by simp [ho, Op.operands]))
    exact ⟨_, by simp [execOp, ho, h1, h2, eqGuard, hg, binOp, hr w], rfl⟩
theorem ok_neagg {t u : TypeId} {x y : Operand} {r : Bool} (xs ys : List Value) (ho : o.op = .binOp .neq t x y u) (hx : VL E x (agg (xs.map is))) (hy : VL E y (agg (ys.map is))) (hg : P.eqGuardType P.depth t = false) (hr : ∀ w, (Op.equal t (.agg xs.toArray) (.agg ys.toArray)).run P w = .ok r w) : OpOK P I o E (bool (!r)) :=
  OpOK.same fun M w ac he _ => by
    have h1 := agg_is (hx.ev he (by simp [ho, Op.operands]))
    have h2 := agg_is (hy.ev he (by simp [ho, Op.operands]))
    exact ⟨_, by simp [execOp, ho, h1, h2, eqGuard, hg, binOp, hr w], rfl⟩

theorem eqS {P : Program} {w : World} {d : Nat} {t : TypeId} {fs : Array Field} {xs ys : Array Value} {r : Bool} (ht : P.underlying t = some (.struct fs)) (hp : P.stoodInHeld t = false) (h : (Op.eqFields d xs ys fs.toList).run P w = .ok r w) : (Op.equalIn (d + 1) t (.agg xs) (.agg ys)).run P w = .ok r w := by
  have hf : P.fieldsOf t = fs := by unfold Program.fieldsOf; rw [ht]
  rw [run_equalIn_struct w d t xs ys (by rw [hf]; exact ht) hp, hf]; exact h
theorem eqF_nil {P : Program} {w : World} {d : Nat} {xs ys : Array Value} : (Op.eqFields d xs ys []).run P w = .ok true w := by simp [Op.eqFields]
theorem eqF_cons {P : Program} {w : World} {d : Nat} {xs ys : Array Value} {f : Field} {fs : List Field} {vx vy : Value} {r q : Bool} (hn : f.name ≠ "_") (ha : (part f.type xs f.offset).run P w = .ok vx w) (hb : (part f.type ys f.offset).run P w = .ok vy w)
    (he : (Op.equalIn d f.type vx vy).run P w = .ok r w) (hr : (Op.eqFields d xs ys fs).run P w = .ok q w) : (Op.eqFields d xs ys (f :: fs)).run P w = .ok (r && q) w := by
  simp only [Op.eqFields, hn, ne_eq, not_false_eq_true, if_true, Sem.run_bind, ha, hb, he, Result.andThen_ok]
  cases r
  · simp
  · simpa using hr
theorem part_leaf {P : Program} {w : World} {t : TypeId} {cs : Array Value} {off : Nat} {v : Value} (h1 : oneB P t = true) (hv : cs[off]? = some v) : (part t cs off).run P w = .ok v w := by
  simp [part, run_isAgg_one h1, hv]
theorem eq_intL {P : Program} {w : World} {d : Nat} {t : TypeId} {k : IntKind} {a b : Int} (h : P.underlying t = some (.int k)) : (Op.equalIn (d + 1) t (.int k a) (.int k b)).run P w = .ok (decide (a = b)) w := by
  rw [run_equalIn_int w d t k k a b h]; rfl
end
end Cp
namespace Cp
open Go Go.RowKit Go.Great

section
variable {P : Program} {E : Env} {I : Asn} {o : Oper}
theorem slice_part {M : Av} {w : World} {sz : Nat} {rows : List (List Pr)} {A : Option Addr} {cap lo hi : Nat} (h : (slice sz rows).h M w (.slice A rows.length cap)) (h1 : lo ≤ hi) (h2 : hi ≤ rows.length) :
    (slice sz ((rows.take hi).drop lo)).h M w (.slice (if cap = lo then A else A.map (·.add (lo * sz))) (hi - lo) (cap - lo)) := by
  obtain ⟨A', cap', hv, hc, hm, hA, hr⟩ := h
  injection hv with e1 _ e3
  subst e1; subst e3
  have hlen : ((rows.take hi).drop lo).length = hi - lo := by rw [List.length_drop, List.length_take]; omega
  refine ⟨_, cap - lo, by rw [hlen], by rw [hlen]; omega, by omega, fun h => ?_, fun i row hi' => ?_⟩
  · split at h
    · have := hA h; omega
    · cases hA2 : A with
      | none => have := hA hA2; omega
      | some a => rw [hA2] at h; cases h
  · rw [List.getElem?_drop, List.getElem?_take] at hi'
    split at hi'
    · rename_i hlt
      obtain ⟨h3, ad, h4, h5⟩ := hr _ row hi'
      subst h4
      rw [if_neg (by omega)]
      refine ⟨h3, _, rfl, fun j p hp => ?_⟩
      obtain ⟨u, h6, h7, h8, h9⟩ := h5 j p hp
      refine ⟨u, ?_, ?_, h8, h9⟩
      · rw [add_add, show lo * sz + (i * sz + j) = (lo + i) * sz + j by rw [Nat.add_mul]; omega]; exact h6
      · rw [add_block, add_off, show ad.off + lo * sz + (i * sz + j) = ad.off + ((lo + i) * sz + j) by rw [Nat.add_mul]; omega]; exact h7
    · cases hi'
theorem ok_sliceTo {t e : TypeId} {x y : Operand} {k : IntKind} {h : Int} {sz : Nat} {rows : List (List Pr)} (ho : o.op = .slice t x none (some y) none) (ht : P.underlying t = some (.slice e)) (hz : sizeB P e = some sz) (hx : VL E x (slice sz rows)) (hy : VL E y (is (.int k h))) (h0 : 0 ≤ h) (hl : h ≤ rows.length) :
    OpOK P I o E (slice sz (rows.take h.toNat)) :=
  OpOK.same fun M w a he _ => by
    have h1 := hx.ev he (by simp [ho, Op.operands])
    have h3 : a.eval y = _ := hy.ev he (by simp [ho, Op.operands])
    obtain ⟨A, cap, hv, hc, hm, hA, hr⟩ := h1
    have h2 := slice_part (lo := 0) (hi := h.toNat) (show (slice sz rows).h M w (.slice A rows.length cap) from ⟨A, cap, rfl, hc, hm, hA, hr⟩) (by omega) (by omega)
    refine ⟨_, ?_, by simpa using h2⟩
    have hb : h ≤ (cap : Int) := by omega
    simp [execOp, ho, hv, h3, Instr.sliceAt, Instr.slice, run_underlying ht, Instr.sliceBounds, Instr.sliceBound, asIntOf, h0, hb, run_size hz]
theorem ok_sliceFrom {t e : TypeId} {x y : Operand} {k : IntKind} {l : Int} {sz : Nat} {rows : List (List Pr)} (ho : o.op = .slice t x (some y) none none) (ht : P.underlying t = some (.slice e)) (hz : sizeB P e = some sz) (hx : VL E x (slice sz rows)) (hy : VL E y (is (.int k l))) (h0 : 0 ≤ l) (hl : l ≤ rows.length) :
    OpOK P I o E (slice sz (rows.drop l.toNat)) :=
  OpOK.same fun M w a he _ => by
    have h1 := hx.ev he (by simp [ho, Op.operands])
    have h3 : a.eval y = _ := hy.ev he (by simp [ho, Op.operands])
    obtain ⟨A, cap, hv, hc, hm, hA, hr⟩ := h1
    have h2 := slice_part (lo := l.toNat) (hi := rows.length) (show (slice sz rows).h M w (.slice A rows.length cap) from ⟨A, cap, rfl, hc, hm, hA, hr⟩) (by omega) (Nat.le_refl _)
    rw [List.take_length] at h2
    refine ⟨_, ?_, h2⟩
    simp [execOp, ho, hv, h3, Instr.sliceAt, Instr.slice, run_underlying ht, Instr.sliceBounds, Instr.sliceBound, asIntOf, h0, hl, run_size hz]
end
end Cp
namespace Cp
open Go Go.RowKit Go.Great

section
variable {P : Program} {n : Nat} {E : Env} {M0 : Av} {w0 : World} {S : Nat → Prop} {rs : List Res} {o : Oper} {g : Func} {M1 : Av} {w1 : World}
/-- The operands, where one slice may be of ours. -/
def ValsO (E : Env) (v0 : Value) (q0 : Pr) : List Operand → List Pr → Prop
  | [], [] => True
  | x :: xs, p :: ps => (VL E x p ∨ (VL E x (is v0) ∧ Pr.le (andIs v0 q0) p)) ∧ ValsO E v0 q0 xs ps
  | _, _ => False
theorem ValsO.ev {M M' : Av} {w : World} {a : Act} {v0 : Value} {q0 : Pr} (he : EnvFor M w E o a) (hx : Ext M w M' w) (h0 : q0.h M' w v0) : ∀ {xs : List Operand} {ps : List Pr}, (∀ x ∈ xs, x ∈ o.op.operands.toList) → ValsO E v0 q0 xs ps → HL M' w ps (xs.map a.eval)
  | [], [], _, _ => trivial
  | [], _ :: _, _, h => h.elim
  | _ :: _, [], _, h => h.elim
  | x :: xs, p :: ps, hm, h => by
    refine ⟨?_, ValsO.ev he hx h0 (fun y hy => hm y (List.mem_cons_of_mem _ hy)) h.2⟩
    rcases h.1 with h1 | ⟨h1, h2⟩
    · exact p.st _ _ _ _ _ hx (h1.ev he (hm x (by simp)))
    · have h3 : a.eval x = v0 := h1.ev he (hm x (by simp))
      exact h2 _ _ _ ⟨h3, by rw [h3]; exact h0⟩
/-- Memory is not read by this. -/
class Free (p : Pr) : Prop where
  free : ∀ M M' w v, p.h M w v → p.h M' w v
instance free_is (u : Value) : Free (is u) := ⟨fun _ _ _ _ h => h⟩
instance free_lens (m : Nat) : Free (lens m) := ⟨fun _ _ _ _ h => h⟩
end
end Cp
namespace Cp
open Go Go.RowKit Go.Great

/-- A map's entries, in the order in which they came. -/
def mkE (es : List (Value × Value)) : Array MapEntry := (es.zipIdx.map fun p => ({ key := p.1.1, val := p.1.2, born := p.2 } : MapEntry)).toArray
theorem mkE_at (es : List (Value × Value)) (i : Nat) : (mkE es)[i]? = (es[i]?).map fun p => { key := p.1, val := p.2, born := i } := by
  simp [mkE, List.getElem?_zipIdx]
  cases es[i]? <;> simp
/-- What the program knows of a map's type: how its keys are compared. -/
structure MapT (P : Program) (T kt et : TypeId) {κ : Type} [DecidableEq κ] (enc : κ → Value) : Prop where
  und : P.underlying T = some (.map kt et)
  zero : ∀ w, (zeroValue et).run P w = .ok (.int .i64 0) w
  eq : ∀ a b w, (Op.equal kt (enc a) (enc b)).run P w = .ok (decide (a = b)) w
  chk : ∀ e a w, (Instr.checkKey e 10000 kt (enc a)).run P w = .ok () w
  und2 : ∃ d, P.underlying kt = some d ∧ ((∀ a b, Instr.sameNow d (enc a) (enc b) = none) ∨ ∀ a b, Instr.sameNow d (enc a) (enc b) = some (decide (a = b)))
  bits : ∀ a, Instr.sameBits 10000 (enc a) (enc a) = true

section
variable {P : Program} {n : Nat} {E : Env} {M0 : Av} {w0 : World} {S : Nat → Prop} {rs : List Res} {o : Oper} {κ : Type} [DecidableEq κ] {enc : κ → Value}

abbrev encE (enc : κ → Value) (es : List (κ × Int)) : List (Value × Value) := es.map fun p => (enc p.1, .int .i64 p.2)
def mapR (enc : κ → Value) (b : Nat) (es : List (κ × Int)) : Res where
  blk := some b
  new := true
  h M w := (∀ o, M b o) ∧ w.heap[b]? = some (.map (mkE (encE enc es)) es.length)
  st M w M' w' he hk h := by
    obtain ⟨h1, h2⟩ := hk b rfl
    exact ⟨fun o => h2 o (h.1 o), h1.trans h.2⟩
theorem HpH.addR {M : Av} {w : World} {obj : Obj} {r : Res} (h : HpH M0 w0 S rs M w) (hb : r.blk = some w.heap.size) (hn : r.new = true) (hr : r.h (fun b o => M b o ∨ b = w.heap.size) (w.alloc obj)) :
    HpH M0 w0 S (r :: rs) (fun b o => M b o ∨ b = w.heap.size) (w.alloc obj) ∧ Ext M w (fun b o => M b o ∨ b = w.heap.size) (w.alloc obj) := by
  have hbl : Below w.heap.size w (w.alloc obj) := (Below.refl _ _).alloc (Nat.le_refl _) _
  have hsz : (w.alloc obj).heap.size = w.heap.size + 1 := by simp
  have he : Ext M w (fun b o => M b o ∨ b = w.heap.size) (w.alloc obj) := by
    have h2 := Ext.below (M := M) hbl
    refine ⟨h2.size, fun a v hc hm => ⟨fun hx => ?_, (h2.keep a v hc hm).2⟩, fun b o ho hp hm => ⟨fun hx => ?_, (h2.obj b o ho hp hm).2⟩⟩
    · rcases hx with hx | hx
      · exact hm hx
      · have := cell_lt hc; omega
    · rcases hx with hx | hx
      · exact hm hx
      · subst hx; simp at ho
  have hI := (Hp M0 w0 S rs).st _ _ _ hbl h
  refine ⟨⟨hI.m0, fun b o hm => .inl (hI.m b o hm), hI.os, hI.tape, hI.output, hI.size, hI.block, fun b o hm => ?_, fun r' hr' => ?_, ?_⟩, he⟩
  · rcases hm with hm | hm
    · exact hI.bd b o hm
    · omega
  · rcases List.mem_cons.1 hr' with rfl | hr'
    · refine ⟨hr, fun b hbk => ?_⟩
      rw [hb] at hbk
      injection hbk with hbk
      subst hbk
      exact ⟨by omega, by rw [hn]; simpa using h.size⟩
    · obtain ⟨h3, h4⟩ := h.hold r' hr'
      exact ⟨r'.st _ _ _ _ he (fun b hbk => ⟨hbl.block b (h4 b hbk).1, fun _ x => .inl x⟩) h3, fun b hbk => ⟨by have := (h4 b hbk).1; omega, (h4 b hbk).2⟩⟩
  · refine List.Pairwise.cons (fun r' hr' b hbk hbk' => ?_) h.nd
    rw [hb] at hbk
    injection hbk with hbk
    have := ((h.hold r' hr').2 b hbk').1
    omega
def setB (w : World) (b : Nat) (o : Obj) : World := { w with heap := w.heap.setIfInBounds b o }
theorem setB_at {w : World} {b : Nat} {o : Obj} (h : b < w.heap.size) : (setB w b o).heap[b]? = some o := by
  show (w.heap.setIfInBounds b o)[b]? = _
  rw [Array.getElem?_setIfInBounds]; simp [h]
theorem setB_other {w : World} {b k : Nat} {o : Obj} (h : k ≠ b) : (setB w b o).heap[k]? = w.heap[k]? := by
  show (w.heap.setIfInBounds b o)[k]? = _
  rw [Array.getElem?_setIfInBounds, if_neg (fun e => h e.symm)]
theorem HpH.setR {M : Av} {w : World} {obj : Obj} {r r' : Res} {j b : Nat} (h : HpH M0 w0 S rs M w) (hj : rs[j]? = some r) (hb : r.blk = some b) (hb' : r'.blk = some b) (hn : r.new = true) (hn' : r'.new = true) (hM : ∀ o, M b o) (hr : r'.h M (setB w b obj)) :
    HpH M0 w0 S (rs.set j r') M (setB w b obj) ∧ Ext M w M (setB w b obj) := by
  have hlt := ((h.hold r (List.mem_of_getElem? hj)).2 b hb).1
  have hsz : (setB w b obj).heap.size = w.heap.size := by simp [setB]
  have he : Ext M w M (setB w b obj) := by
    refine ⟨by omega, fun a v hc hm => ⟨hm, ?_⟩, fun k o ho hp hm => ⟨hm, ?_⟩⟩
    · rw [World.cell?_of_block (w := w) (setB_other (fun e => hm (by rw [e]; exact hM _)))]; exact hc
    · rw [setB_other (fun e => hm (by rw [e]; exact hM _))]; exact ho
  refine ⟨h.replace hj he rfl rfl rfl (fun k _ hk => setB_other (fun e => hk (by rw [hb, e]))) hn (fun _ _ hm _ => hm) (fun k o hm => by rw [hsz]; exact h.bd k o hm) hr hn' (fun k hk => ?_), he⟩
  rw [hb'] at hk
  injection hk with hk
  subst hk
  exact ⟨by omega, .inl hb⟩

variable {Q : Exit → Act → World → Prop} {ops : Array Oper} {r : List Oper}
def iterR (it b m : Nat) (seen : List Nat) : Res where
  blk := some it
  new := true
  h M w := (∀ o, M it o) ∧ w.heap[it]? = some (.mapIter (some b) m seen.toArray m)
  st M w M' w' he hk h := by
    obtain ⟨h1, h2⟩ := hk it rfl
    exact ⟨fun o => h2 o (h.1 o), h1.trans h.2⟩
theorem TO.range {d j b : Nat} {T kt et : TypeId} {x : Operand} {es : List (κ × Int)} (hT : MapT P T kt et enc) (hg : o.guard = none) (hd : o.dst = some d) (hn : d < n) (ho : o.op = .range T x) (hx : VL E x (is (.map (some b)))) (hj : rs[j]? = some (mapR enc b es))
    (k : ∀ it, TO P n ops r ((d, ptr it 0) :: E) (Hp M0 w0 S (iterR it b es.length [] :: rs)) Q) : TO P n ops (o :: r) E (Hp M0 w0 S rs) Q :=
  TO.eff hg fun K M w a hsz hdf he hI hK => by
    have h1 : a.eval x = _ := hx.ev (o := o) (looks_env he) (by simp [ho, Op.operands])
    obtain ⟨_, hh⟩ := (HpH.hold hI _ (List.mem_of_getElem? hj)).1
    refine TO.val (v := .pointer (some ⟨w.heap.size, 0, none⟩)) (w' := w.alloc (.mapIter (some b) es.length #[] es.length)) ?_ ?_
    · simp [execOp, ho, h1, run_range_map w T kt et b _ _ hT.und hh]
    · obtain ⟨h2, h3⟩ := HpH.addR (obj := .mapIter (some b) es.length #[] es.length) (r := iterR w.heap.size b es.length []) hI rfl rfl ⟨fun _ => .inr rfl, by rw [heap_alloc_new]⟩
      refine hK _ _ _ _ (k w.heap.size) ⟨_, by rw [put_size]; exact hsz, by rw [put_defers]; exact hdf, ?_, h2⟩
      intro s p hp
      simp only [List.lookup] at hp
      by_cases hs : s = d
      · subst hs; simp at hp; subst hp; rw [hd, put_same (by rw [hsz]; exact hn)]; rfl
      · rw [show (s == d) = false by simpa using hs] at hp
        rw [hd, put_other hs]
        exact p.st _ _ _ _ _ h3 (he s p hp)
theorem mem_left {es : List (Value × Value)} {seen : List Nat} {e : MapEntry} : e ∈ (leftOf (mkE es) seen.toArray).toList ↔ ∃ q p, es[q]? = some p ∧ q ∉ seen ∧ e = { key := p.1, val := p.2, born := q } := by
  unfold leftOf
  rw [Array.toList_filter, List.mem_filter]
  constructor
  · rintro ⟨h1, h2⟩
    obtain ⟨q, hq⟩ := List.mem_iff_getElem?.1 h1
    rw [Array.getElem?_toList, mkE_at] at hq
    cases hp : es[q]? with
    | none => rw [hp] at hq; cases hq
    | some p =>
      rw [hp] at hq
      simp only [Option.map_some, Option.some.injEq] at hq
      subst hq
      exact ⟨q, p, hp, by simpa using h2, rfl⟩
  · rintro ⟨q, p, hp, hq, rfl⟩
    exact ⟨List.mem_iff_getElem?.2 ⟨q, by rw [Array.getElem?_toList, mkE_at, hp]; rfl⟩, by simpa using hq⟩
theorem run_next_own {w : World} (ty : TypeId) {it b m : Nat} {seen : List Nat} {es : List (Value × Value)} (hm : es.length = m) (hit : w.heap[it]? = some (.mapIter (some b) m seen.toArray m)) (hb : w.heap[b]? = some (.map (mkE es) m)) :
    ((∀ q, q < m → q ∈ seen) ∧ (Instr.next (.pointer (some ⟨it, 0, none⟩)) false ty).run P w = .ok (.tuple #[.bool false]) w) ∨
    ∃ q p, es[q]? = some p ∧ q ∉ seen ∧ ∃ w1, (w1 = w ∨ w1 = w.drew) ∧ (Instr.next (.pointer (some ⟨it, 0, none⟩)) false ty).run P w = .ok (.tuple #[.bool true, p.1, p.2]) (setB w1 it (.mapIter (some b) m (seen ++ [q]).toArray m)) := by
  have hold : ∀ x ∈ (mkE es).toList, x.born < m := by
    intro x hx
    obtain ⟨q, hq⟩ := List.mem_iff_getElem?.1 hx
    rw [Array.getElem?_toList, mkE_at] at hq
    cases hp : es[q]? with
    | none => rw [hp] at hq; cases hq
    | some p =>
      rw [hp] at hq
      simp only [Option.map_some, Option.some.injEq] at hq
      subst hq
      show q < m
      rcases Nat.lt_or_ge q es.length with h | h
      · omega
      · rw [List.getElem?_eq_none h] at hp; cases hp
  simp only [Instr.next, getObj, Sem.run_bind, Sem.run, hit, hb, Result.andThen, next_test_false seen.toArray (mkE es) m m hold (Nat.le_refl _), Bool.false_eq_true, if_false]
  have hleft : (mkE es).filter (fun e => !seen.toArray.contains e.born) = leftOf (mkE es) seen.toArray := rfl
  rw [hleft]
  have hmem : ∀ x ∈ (leftOf (mkE es) seen.toArray).toList, x.born < m := fun x hx => by
    obtain ⟨q, p, h1, _, rfl⟩ := mem_left.1 hx
    rcases Nat.lt_or_ge q es.length with h | h
    · show q < m; omega
    · rw [List.getElem?_eq_none h] at h1; cases h1
  have hml : ∀ e, e ∈ (leftOf (mkE es) seen.toArray).toList ↔ ∃ q p, es[q]? = some p ∧ q ∉ seen ∧ e = { key := p.1, val := p.2, born := q } := fun e => mem_left
  generalize leftOf (mkE es) seen.toArray = L at hmem hml ⊢
  have e1 : L.filter (fun x => decide (x.born < m)) = L := Array.filter_eq_self.2 (fun x hx => by simpa using hmem x (by simpa using hx))
  have e2 : L.filter (fun x => decide (x.born ≥ m)) = #[] := by
    rw [Array.filter_eq_empty_iff]
    intro x hx
    have := hmem x (by simpa using hx)
    simp
    omega
  simp only [e1, e2, Array.append_empty]
  by_cases h0 : L.size = 0
  · left
    have hL : L = #[] := Array.eq_empty_of_size_eq_zero h0
    refine ⟨fun q hq => ?_, ?_⟩
    · rcases Classical.em (q ∈ seen) with h | h
      · exact h
      · have := (hml { key := (es[q]'(by omega)).1, val := (es[q]'(by omega)).2, born := q }).2 ⟨q, es[q]'(by omega), List.getElem?_eq_getElem (by omega), h, rfl⟩
        rw [hL] at this; simp at this
    · subst hL
      simp [choose, Sem.run, Question.forced]
  · right
    have hne : L.isEmpty = false := by simp [Array.isEmpty, h0]
    simp only [hne, Bool.false_eq_true, if_false, Array.empty_append, Array.size_map]
    have hch : ∃ (j : Nat) (w1 : World), j < L.size ∧ (w1 = w ∨ w1 = w.drew) ∧ (choose (Question.mapNext L.size)).run P w = .ok j w1 := by
      by_cases hf : L.size ≤ 1
      · exact ⟨0, w, by omega, .inl rfl, by simp [choose, Sem.run, Question.forced, hf]⟩
      · exact ⟨_, w.drew, Nat.mod_lt _ (by omega), .inr rfl, by
          simp only [choose, Sem.run, Question.forced, decide_eq_true_eq, hf, if_false, Question.cut]
          rfl⟩
    obtain ⟨j, w1, hj, hal, hrun⟩ := hch
    obtain ⟨q, p, hq1, hq2, hq3⟩ := (hml L[j]).1 (by simp)
    refine ⟨q, p, hq1, hq2, w1, hal, ?_⟩
    have hw1 : w1.heap = w.heap := by rcases hal with rfl | rfl <;> rfl
    have hset : ∀ (o' : Obj), (setObj it o').run P w1 = .ok () (setB w1 it o') := fun o' => by
      have hit1 : w1.heap[it]? = some (.mapIter (some b) m seen.toArray m) := by rw [hw1]; exact hit
      simp only [setObj, Sem.run, hit1]
      rfl
    simp only [hrun, Array.getElem?_map, Array.getElem?_eq_getElem hj, Option.map_some, Sem.run_bind, hset, Result.andThen]
    rw [hq3]
    simp

omit [DecidableEq κ] in
theorem TO.next {d i j it b : Nat} {x : Operand} {es : List (κ × Int)} {seen : List Nat} (hg : o.guard = none) (hd : o.dst = some d) (hn : d < n) (ho : o.op = .next x false) (hx : VL E x (ptr it 0)) (hi : rs[i]? = some (iterR it b es.length seen)) (hj : rs[j]? = some (mapR enc b es))
    (k1 : (∀ q, q < es.length → q ∈ seen) → TO P n ops r ((d, tup [bool false]) :: E) (Hp M0 w0 S rs) Q)
    (k2 : ∀ q p, es[q]? = some p → q ∉ seen → TO P n ops r ((d, tup [bool true, is (enc p.1), int p.2]) :: E) (Hp M0 w0 S (rs.set i (iterR it b es.length (seen ++ [q])))) Q) : TO P n ops (o :: r) E (Hp M0 w0 S rs) Q :=
  TO.eff hg fun K M w a hsz hdf he hI hK => by
    have h1 : a.eval x = .pointer (some ⟨it, 0, none⟩) := hx.ev (o := o) (looks_env he) (by simp [ho, Op.operands])
    obtain ⟨⟨hMi, hit⟩, hbi⟩ := HpH.hold hI _ (List.mem_of_getElem? hi)
    obtain ⟨_, hh⟩ := (HpH.hold hI _ (List.mem_of_getElem? hj)).1
    have hlt := (hbi it rfl).1
    rcases run_next_own (P := P) o.type (es := encE enc es) (by simp [encE]) hit hh with ⟨h2, h3⟩ | ⟨q, p, h2, h3, w1, h4, h5⟩
    · refine TO.val (v := .tuple #[.bool false]) (w' := w) ?_ ?_
      · simp [execOp, ho, h1, h3]
      · refine hK _ _ _ _ (k1 h2) ⟨M, by rw [put_size]; exact hsz, by rw [put_defers]; exact hdf, ?_, hI⟩
        intro s p hp
        simp only [List.lookup] at hp
        by_cases hs : s = d
        · subst hs; simp at hp; subst hp; rw [hd, put_same (by rw [hsz]; exact hn)]; exact ⟨_, rfl, rfl, trivial⟩
        · rw [show (s == d) = false by simpa using hs] at hp
          rw [hd, put_other hs]; exact he s p hp
    · have hes : ∃ p', es[q]? = some p' ∧ p = (enc p'.1, .int .i64 p'.2) := by
        simp only [encE, List.getElem?_map] at h2
        cases h : es[q]? with
        | none => rw [h] at h2; cases h2
        | some p' => rw [h] at h2; simp at h2; exact ⟨p', rfl, h2.symm⟩
      obtain ⟨p', hp', rfl⟩ := hes
      refine TO.val (v := .tuple #[.bool true, enc p'.1, .int .i64 p'.2]) (w' := setB w1 it (.mapIter (some b) es.length (seen ++ [q]).toArray es.length)) ?_ ?_
      · simp [execOp, ho, h1, h5]
      · have hbel : Below w.heap.size w w1 := by
          rcases h4 with rfl | rfl
          · exact Below.refl _ _
          · exact (Below.refl _ _).drew
        have hI1 := (Hp M0 w0 S rs).st _ _ _ hbel hI
        obtain ⟨h6, h7⟩ := HpH.setR (obj := .mapIter (some b) es.length (seen ++ [q]).toArray es.length) (r' := iterR it b es.length (seen ++ [q])) hI1 hi rfl rfl rfl rfl hMi ⟨hMi, setB_at (Nat.lt_of_lt_of_le hlt hbel.size)⟩
        refine hK _ _ _ _ (k2 q p' hp' h3) ⟨M, by rw [put_size]; exact hsz, by rw [put_defers]; exact hdf, ?_, h6⟩
        intro s p hp
        simp only [List.lookup] at hp
        by_cases hs : s = d
        · subst hs; simp at hp; subst hp; rw [hd, put_same (by rw [hsz]; exact hn)]; exact ⟨_, rfl, rfl, rfl, rfl, trivial⟩
        · rw [show (s == d) = false by simpa using hs] at hp
          rw [hd, put_other hs]
          exact p.st _ _ _ _ _ ((Ext.below hbel).trans h7) (he s p hp)
omit [DecidableEq κ] in
theorem TO.entry {d i j it b q : Nat} {x : Operand} {es : List (κ × Int)} {seen : List Nat} {p : κ × Int} (hg : o.guard = none) (hd : o.dst = some d) (hn : d < n) (ho : o.op = .entry x) (hx : VL E x (ptr it 0)) (hi : rs[i]? = some (iterR it b es.length (seen ++ [q]))) (hj : rs[j]? = some (mapR enc b es)) (hq : es[q]? = some p)
    (k : TO P n ops r ((d, tup [is (enc p.1), int p.2]) :: E) (Hp M0 w0 S rs) Q) : TO P n ops (o :: r) E (Hp M0 w0 S rs) Q :=
  TO.eff hg fun K M w a hsz hdf he hI hK => by
    have h1 : a.eval x = .pointer (some ⟨it, 0, none⟩) := hx.ev (o := o) (looks_env he) (by simp [ho, Op.operands])
    obtain ⟨⟨_, hit⟩, _⟩ := HpH.hold hI _ (List.mem_of_getElem? hi)
    obtain ⟨_, hh⟩ := (HpH.hold hI _ (List.mem_of_getElem? hj)).1
    have hat : (mkE (encE enc es))[q]? = some { key := enc p.1, val := .int .i64 p.2, born := q } := by rw [mkE_at]; simp [encE, hq]
    have hnd : ((mkE (encE enc es)).toList.map (·.born)).Nodup := by
      have : (mkE (encE enc es)).toList.map (·.born) = List.range (encE enc es).length := by
        apply List.ext_getElem?
        intro k
        rw [List.getElem?_map, Array.getElem?_toList, mkE_at]
        by_cases hk : k < (encE enc es).length
        · rw [List.getElem?_range hk, List.getElem?_eq_getElem hk]; rfl
        · rw [List.getElem?_eq_none (Nat.le_of_not_lt hk), List.getElem?_eq_none (by simp at hk ⊢; omega)]; rfl
      rw [this]; exact List.nodup_range
    have hfind : (mkE (encE enc es)).find? (fun e => e.born == q) = some { key := enc p.1, val := .int .i64 p.2, born := q } := by
      rw [← Array.find?_toList]
      exact find_born { key := enc p.1, val := .int .i64 p.2, born := q } _ hnd (List.mem_iff_getElem?.2 ⟨q, by rw [Array.getElem?_toList]; exact hat⟩)
    refine TO.val (v := .tuple #[enc p.1, .int .i64 p.2]) (w' := w) ?_ ?_
    · have : (Instr.entry (.pointer (some ⟨it, 0, none⟩))).run P w = .ok (.tuple #[enc p.1, .int .i64 p.2]) w := by
        have hb : (seen ++ [q]).toArray.back? = some q := by simp
        simp only [Instr.entry, getObj, Sem.run_bind, Sem.run, hit, hh, Result.andThen, hb, bne_self_eq_false, Bool.false_eq_true, if_false, hfind]
        rfl
      simp [execOp, ho, h1, this]
    · refine hK _ _ _ _ k ⟨M, by rw [put_size]; exact hsz, by rw [put_defers]; exact hdf, ?_, hI⟩
      intro s p hp
      simp only [List.lookup] at hp
      by_cases hs : s = d
      · subst hs; simp at hp; subst hp; rw [hd, put_same (by rw [hsz]; exact hn)]; exact ⟨_, rfl, rfl, rfl, trivial⟩
      · rw [show (s == d) = false by simpa using hs] at hp
        rw [hd, put_other hs]; exact he s p hp
end

section
variable {P : Program}
end
end Cp
namespace Cp
open Go Go.RowKit Go.Great

section
variable {P : Program} {n : Nat} {E : Env} {M0 : Av} {w0 : World} {S : Nat → Prop} {rs : List Res} {o : Oper}

theorem run_append_void (w : World) (A : Option Addr) (t ty e : TypeId) (i : TypeInfo) (z : Value) (ht : P.underlying t = some (.slice e)) (hi : P.info? e = some i) (hz : i.zero = some z)
    (a : Addr) (n c : Nat) (news : List Value) (hl : news.length = n * i.size) (hnews : ∀ j v, news[j]? = some v → w.cell? (a.add j) = some v)
    (h0 : 0 < n) (h63 : (n : Int) ≤ 9223372036854775807) (h48 : n * i.bytes ≤ 281474976710656) :
    (Builtin.append_ #[t, t] ty #[.slice A 0 0, .slice (some a) n c]).run P w =
      .ok (.slice (some ⟨w.heap.size, 0, none⟩) n (grownCap w n 0 e)) (w.drew.alloc (.cells (news.toArray ++ Builtin.zeroCells z.cells (grownCap w n 0 e - n)) e)) := by
  cases A with
  | none => exact run_append_nil (w := w) t ty e i z ht hi hz a n c news hl hnews h0 h63 h48
  | some b =>
    have := run_append_grow (w := w) t ty e i z ht hi hz b 0 0 [] (by simp) (by simp) a n c news hl hnews (by omega) (by simpa using h63) (by rw [Nat.zero_add, nextslicecap_zero h0]; exact h48)
    simpa using this

/-- append onto a slice of nothing. -/
theorem app_void {M : Av} {w : World} {t ty e : TypeId} {sz bytes : Nat} {zs : List Value} {rows : List (List Pr)} {u : Value} {j : Nat} (A : Option Addr) (ht : P.underlying t = some (.slice e)) (hz : sizeB P e = some sz) (hby : bytesB P e = some bytes) (hze : zeroB P e = some zs) (hzl : zs.length = sz) (hone : zs.all (·.oneCell') = true) (hsz : 0 < sz)
    (h : HpH M0 w0 S rs M w) (hj : rs[j]? = some noRes) (hu : (slice sz rows).h M w u) (hpos : 0 < rows.length) (hmax : rows.length ≤ maxLen) (hfit : rows.length * bytes ≤ 140737488355328) :
    ∃ v' w' M', (Builtin.append_ #[t, t] ty #[.slice A 0 0, u]).run P w = .ok v' w' ∧ (lens rows.length).h M' w' v' ∧ Ext M w M' w' ∧ HpH M0 w0 S (rs.set j (mutRes e sz rows v')) M' w' := by
  unfold sizeB at hz
  unfold bytesB at hby
  unfold zeroB at hze
  cases hi : P.info? e with
  | none => rw [hi] at hz; cases hz
  | some i =>
    rw [hi] at hz hby hze
    simp only [Option.map_some, Option.some.injEq, Option.map_eq_some_iff] at hz hby hze
    obtain ⟨z, hzz, hze⟩ := hze
    have hzc : z.cells.size = sz := by rw [← hzl, ← hze]; simp
    obtain ⟨A', c', rfl, hmc, hcm', hA', hrows'⟩ := hu
    have hu0 : (slice sz rows).h M w (.slice A' rows.length c') := ⟨A', c', rfl, hmc, hcm', hA', hrows'⟩
    obtain ⟨ad', rfl⟩ : ∃ ad', A' = some ad' := by
      obtain ⟨_, b, hb, _⟩ := hrows' 0 _ (List.getElem?_eq_getElem hpos)
      exact ⟨b, hb⟩
    obtain ⟨news, hfl, hcell⟩ := slice_flat hsz hu0
    have hrun := run_append_void (P := P) w A t ty e i z ht hi hzz ad' rows.length c' news (by rw [hz]; exact hfl.1) (fun k u hk => (hcell k u hk).1) hpos (by unfold maxLen at hmax; omega) (by rw [hby]; omega)
    generalize hcap : grownCap w rows.length 0 e = cap at hrun
    have hge : rows.length ≤ cap := by rw [← hcap]; exact grownCap_ge _ _ _ _
    have hle : cap ≤ maxLen := by rw [← hcap]; exact grownCap_le_maxLen _ _ _ _ hmax
    generalize hzc' : Builtin.zeroCells z.cells (cap - rows.length) = zc at hrun
    have hzs : zc.size = (cap - rows.length) * sz := by rw [← hzc', size_zeroCells, hzc]
    have hzo : ∀ c ∈ zc.toList, c.oneCell' = true := by rw [← hzc']; exact zeroCells_one hze hone
    have hb : Below w.heap.size w (w.drew.alloc (.cells (news.toArray ++ zc) e)) := ((Below.refl _ _).drew).alloc (Nat.le_refl _) _
    have h2 := Ext.below (M := M) hb
    have hext : Ext M w (fun b o => M b o ∨ b = w.heap.size) (w.drew.alloc (.cells (news.toArray ++ zc) e)) := by
      refine ⟨h2.size, fun a v hc hm => ⟨fun hx => ?_, (h2.keep a v hc hm).2⟩, fun b o ho hp hm => ⟨fun hx => ?_, (h2.obj b o ho hp hm).2⟩⟩
      · rcases hx with hx | hx
        · exact hm hx
        · have := cell_lt hc; omega
      · rcases hx with hx | hx
        · exact hm hx
        · subst hx; simp at ho
    have hs1 : (w.drew.alloc (.cells (news.toArray ++ zc) e)).heap.size = w.heap.size + 1 := by simp
    refine ⟨_, _, fun b o => M b o ∨ b = w.heap.size, hrun, ⟨_, _, rfl⟩, hext, ?_⟩
    refine h.replace hj hext hb.os hb.tape hb.output (fun k hk _ => hb.block k hk) rfl (fun b o hm _ => .inl hm) (fun b o hx => ?_) ?_ rfl (fun b hbk => ?_)
    · rcases hx with hx | hx
      · have := h.bd _ _ hx; omega
      · omega
    · refine ⟨w.heap.size, cap, zc.toList, rfl, hge, hle, by simpa using hzs, fun o => .inr rfl, news ++ zc.toList, ?_, ?_, ?_⟩
      · have hh : (w.drew.alloc (.cells (news.toArray ++ zc) e)).heap[w.heap.size]? = some (.cells (news.toArray ++ zc) e (0, 0)) := heap_alloc_new w.drew _
        rw [hh]; simp
      · exact ((hfl.st hext).hl hsz).app (hl_is _ _ _)
      · intro c hc
        rcases List.mem_append.1 hc with hc | hc
        · exact hfl.2.1 c hc
        · exact hzo c hc
    · have hbk' : some w.heap.size = some b := hbk
      injection hbk' with e1
      subst e1
      exact ⟨by rw [hs1]; omega, .inr (Nat.le_refl _)⟩
theorem ef_appvoid {t e : TypeId} {x y : Operand} {sz' : Nat} {sz bytes d : Nat} {zs : List Value} {rows : List (List Pr)} {j : Nat} (hg : o.guard = none) (hd : o.dst = some d) (hn : d < n) (ho : o.op = .call { callee := .builtin .append, args := #[x, y], argTypes := #[t, t] })
    (ht : P.underlying t = some (.slice e)) (hz : sizeB P e = some sz) (hby : bytesB P e = some bytes) (hze : zeroB P e = some zs) (hzl : zs.length = sz) (hone : zs.all (·.oneCell') = true) (hsz : 0 < sz)
    (hx : VL E x (full sz' [])) (hy : VL E y (slice sz rows)) (hpos : 0 < rows.length) (hmax : rows.length ≤ maxLen) (hfit : rows.length * bytes ≤ 140737488355328) : OpEf P M0 w0 S n j (SR.c noRes) ⟨d, mutRes e sz rows⟩ o E (lens rows.length) := by
  refine ⟨hg, fun M w a rs hszn he hI hj => ?_⟩
  have h2 := hy.ev he (by simp [ho, Op.operands, Call.operands])
  obtain ⟨_, A, h1⟩ := hx.ev he (by simp [ho, Op.operands, Call.operands])
  simp only [List.length_nil] at h1
  obtain ⟨v', w', M', hrun, h3, h4, h5⟩ := app_void A (ty := o.type) ht hz hby hze hzl hone hsz hI hj h2 hpos hmax hfit
  have hrun2 : (execOp a.eval o).run P w = .ok (.value v') w' := by simp [execOp, ho, resolve, invoke, builtin, h1, hrun]
  rw [hrun2]
  refine ⟨M', h3, h4, ?_⟩
  have : (SR.at_ (a.put o.dst v') ⟨d, mutRes e sz rows⟩) = mutRes e sz rows v' := by unfold SR.at_ Slot.val; dsimp only; rw [hd, put_same (by rw [hszn]; exact hn)]
  rw [this]; exact h5


theorem okb_len {I : Asn} {t e : TypeId} {x : Operand} {A : Option Addr} {m cap : Nat} (ho : o.op = .call { callee := .builtin .len, args := #[x], argTypes := #[t] }) (ht : P.underlying t = some (.slice e)) (hx : VL E x (is (.slice A m cap))) : OpOK P I o E (int m) :=
  OpOK.same fun M w a he _ => by
    have h1 : a.eval x = _ := hx.ev he (by simp [ho, Op.operands, Call.operands])
    exact ⟨.int .i64 m, by simp [execOp, ho, resolve, invoke, builtin, Builtin.len_, h1, run_underlying ht, goInt], rfl⟩
theorem TO.openM {ops : Array Oper} {r : List Oper} {Q : Exit → Act → World → Prop} {e : TypeId} {sz : Nat} {rows : List (List Pr)} {v : Value} (j : Nat) (hj : rs[j]? = some (mutRes e sz rows v))
    (k : ∀ (b cap : Nat) (spare : List Value), v = .slice (some ⟨b, 0, none⟩) rows.length cap → rows.length ≤ cap → cap ≤ maxLen → spare.length = (cap - rows.length) * sz → TO P n ops r E (Hp M0 w0 S (rs.set j (cellsRes true b e (rows.flatten ++ spare.map is)))) Q) : TO P n ops r E (Hp M0 w0 S rs) Q :=
  fun m hl a w hs => let ⟨b, cap, spare, h1, h2, h3, h4, h5⟩ := hs.openM j hj; k b cap spare h1 h2 h3 h4 m hl a w h5
theorem map_rows {β : Type} {f : β → List Pr} {l : List β} {sz : Nat} (hf : ∀ x, (f x).length = sz) : ∀ r ∈ l.map f, r.length = sz := fun r hr => by obtain ⟨y, _, rfl⟩ := List.mem_map.1 hr; exact hf y
theorem St.frzS {b cap sz : Nat} {e : TypeId} {rows : List (List Pr)} {qs : List Pr} (j d : Nat) {p : Pr} (hj : rs[j]? = some (cellsRes true b e (rows.flatten ++ qs))) (hd : E.lookup d = some p) (hp : Pr.le p (is (.slice (some ⟨b, 0, none⟩) rows.length cap)))
    (hl : ∀ r ∈ rows, r.length = sz) (hc : rows.length ≤ cap) (hm : cap ≤ maxLen) (hq : qs.length = (cap - rows.length) * sz)
    {a : Act} {w : World} (h : St n E (Hp M0 w0 S rs) a w) : St n ((d, andIs (.slice (some ⟨b, 0, none⟩) rows.length cap) (slice sz rows)) :: E) (Hp M0 w0 S (rs.set j (appRes e sz (.slice (some ⟨b, 0, none⟩) rows.length cap)))) a w := by
  obtain ⟨M, h1, h2, h3, h4⟩ := h
  obtain ⟨M', h5, h6, h7⟩ := HpH.frz h4 hj hl hc hm hq
  refine ⟨M', h1, h2, fun s q hs => ?_, h6⟩
  simp only [List.lookup] at hs
  split at hs
  · rename_i e1
    have : s = d := by simpa using e1
    subst this
    simp only [Option.some.injEq] at hs
    subst hs
    have h8 := hp _ _ _ (h3 _ _ hd)
    exact ⟨h8, by rw [show a.tmps.getD s undef = _ from h8]; exact h7⟩
  · exact q.st _ _ _ _ _ h5 (h3 s q hs)
theorem Tr.frzS {Q : Exit → Act → World → Prop} {c : Code} {b cap sz : Nat} {e : TypeId} (rows : List (List Pr)) {qs : List Pr} (j d : Nat) {p : Pr} (hj : rs[j]? = some (cellsRes true b e (rows.flatten ++ qs))) (hd : E.lookup d = some p) (hp : Pr.le p (is (.slice (some ⟨b, 0, none⟩) rows.length cap)))
    (hl : ∀ r ∈ rows, r.length = sz) (hc : rows.length ≤ cap) (hm : cap ≤ maxLen) (hq : qs.length = (cap - rows.length) * sz)
    (k : Tr P n ((d, andIs (.slice (some ⟨b, 0, none⟩) rows.length cap) (slice sz rows)) :: E) (Hp M0 w0 S (rs.set j (appRes e sz (.slice (some ⟨b, 0, none⟩) rows.length cap)))) c Q) : Tr P n E (Hp M0 w0 S rs) c Q :=
  Tr.conv (fun _ _ hs => hs.frzS j d hj hd hp hl hc hm hq) k
theorem Fin.frzS {Q : Exit → Act → World → Prop} {x : Exit} {b cap sz : Nat} {e : TypeId} (rows : List (List Pr)) {qs : List Pr} (j d : Nat) {p : Pr} (hj : rs[j]? = some (cellsRes true b e (rows.flatten ++ qs))) (hd : E.lookup d = some p) (hp : Pr.le p (is (.slice (some ⟨b, 0, none⟩) rows.length cap)))
    (hl : ∀ r ∈ rows, r.length = sz) (hc : rows.length ≤ cap) (hm : cap ≤ maxLen) (hq : qs.length = (cap - rows.length) * sz)
    (k : Fin n ((d, andIs (.slice (some ⟨b, 0, none⟩) rows.length cap) (slice sz rows)) :: E) (Hp M0 w0 S (rs.set j (appRes e sz (.slice (some ⟨b, 0, none⟩) rows.length cap)))) Q x) : Fin n E (Hp M0 w0 S rs) Q x :=
  Fin.conv (fun _ _ hs => hs.frzS j d hj hd hp hl hc hm hq) k
end
end Cp
namespace Cp
open Go Go.RowKit Go.Great

section
variable {P : Program} {n : Nat} {E : Env} {M0 : Av} {w0 : World} {S : Nat → Prop} {rs : List Res} {o : Oper} {g : Func} {M1 : Av} {w1 : World}
def ptrRes (T : TypeId) (ps : List Pr) (v : Value) : Res := match v with | .pointer (some a) => cellsRes true a.block T ps | _ => noRes
theorem ef_allocX {d j : Nat} {T : TypeId} {zs : List Value} (hg : o.guard = none) (hd : o.dst = some d) (hn : d < n) (ho : o.op = .alloc T) (hz : zeroB P T = some zs) (h1' : zs.all (·.oneCell') = true) :
    OpEf P M0 w0 S n j (SR.c noRes) ⟨d, ptrRes T (zs.map is)⟩ o E (Cp.ex fun b => ptr b 0) := by
  refine ⟨hg, fun M w a rs hszn he hI hj => ?_⟩
  have h1 : ∀ c ∈ zs, c.oneCell' = true := fun c hc => List.all_eq_true.1 h1' c hc
  obtain ⟨z, hz1, hz2⟩ := run_zero hz w
  have hrun : (execOp a.eval o).run P w = .ok (.value (.pointer (some ⟨w.heap.size, 0, none⟩))) (w.alloc (.cells zs.toArray T)) := by simp [execOp, ho, Instr.alloc, hz1, newVar, newRow, ← hz2]
  rw [hrun]
  have hb : Below w.heap.size w (w.alloc (.cells zs.toArray T)) := (Below.refl _ _).alloc (Nat.le_refl _) _
  have h2 := Ext.below (M := M) hb
  have hext : Ext M w (fun b o => M b o ∨ b = w.heap.size) (w.alloc (.cells zs.toArray T)) := by
    refine ⟨h2.size, fun a v hc hm => ⟨fun hx => ?_, (h2.keep a v hc hm).2⟩, fun b o ho hp hm => ⟨fun hx => ?_, (h2.obj b o ho hp hm).2⟩⟩
    · rcases hx with hx | hx
      · exact hm hx
      · have := cell_lt hc; omega
    · rcases hx with hx | hx
      · exact hm hx
      · subst hx; simp at ho
  have hs1 : (w.alloc (.cells zs.toArray T)).heap.size = w.heap.size + 1 := by simp
  have hat : (SR.at_ (a.put o.dst (.pointer (some ⟨w.heap.size, 0, none⟩))) ⟨d, ptrRes T (zs.map is)⟩) = cellsRes true w.heap.size T (zs.map is) := by unfold SR.at_ Slot.val; dsimp only; rw [hd, put_same (by rw [hszn]; exact hn)]; rfl
  refine ⟨fun b o => M b o ∨ b = w.heap.size, ⟨_, rfl⟩, hext, ?_⟩
  rw [hat]
  refine hI.replace hj hext hb.os hb.tape hb.output (fun k hk _ => hb.block k hk) rfl (fun b o hm _ => .inl hm) (fun b o hx => ?_) ?_ rfl (fun b hbk => ?_)
  · rcases hx with hx | hx
    · have := hI.bd _ _ hx; omega
    · omega
  · refine ⟨fun o => .inr rfl, zs, heap_alloc_new w _, hl_is _ _ _, h1⟩
  · have hbk' : some w.heap.size = some b := hbk
    injection hbk' with e1
    subst e1
    exact ⟨by rw [hs1]; omega, .inr (Nat.le_refl _)⟩
theorem ef_storeX {t : TypeId} {s : Tmp} {y : Operand} {j m : Nat} {T : TypeId} {ps qs : List Pr} (hg : o.guard = none) (hd : o.dst = none) (ho : o.op = .store t (.tmp s) y) (hx : E.lookup s = some (Cp.ex fun b => ptr b 0)) (hy : VL E y (cellsP qs))
    (hz : sizeB P t = some m) (hm : qs.length = m) (hl : ps.length = m) : OpEf P M0 w0 S n j ⟨s, ptrRes T ps⟩ ⟨s, ptrRes T qs⟩ o E any := by
  refine ⟨hg, fun M w a rs hsz he hI hj => ?_⟩
  have hxv : VL E (.tmp s) (Cp.ex fun b => ptr b 0) := ⟨_, hx, Pr.le_refl _⟩
  obtain ⟨b, h1'⟩ := hxv.ev he (show (Operand.tmp s) ∈ o.op.operands.toList by simp [ho, Op.operands])
  have h1 : a.eval (.tmp s) = .pointer (some ⟨b, 0, none⟩) := h1'
  have h1t : a.tmps.getD s undef = .pointer (some ⟨b, 0, none⟩) := h1
  have hj' : rs[j]? = some (cellsRes true b T ps) := by
    rw [hj]; show some (ptrRes T ps (a.tmps.getD s undef)) = _; rw [h1t]; rfl
  obtain ⟨h2, h3⟩ := hy.ev he (show y ∈ o.op.operands.toList by simp [ho, Op.operands])
  obtain ⟨⟨_, cs, h4, h5, h6⟩, _⟩ := hI.hold _ (List.mem_of_getElem? hj')
  have h5l := h5.length
  have h2l := h2.length
  have hcells : (a.eval y).cells.size = m := by rw [← hm, ← h2l]; simp
  have hrun : (storeCells ⟨b, 0, none⟩ (a.eval y).cells.toList 0).run P w = .ok () (w.setRow b (cs.take 0 ++ (a.eval y).cells.toList ++ cs.drop (0 + m)).toArray) := by
    have := run_storeCells_at (P := P) b 0 T (a.eval y).cells.toList 0 cs.toArray w h4 (by simp; omega) h3
    simpa [hcells] using this
  have hdrop : cs.drop (0 + m) = [] := List.drop_eq_nil_of_le (by omega)
  rw [hdrop, List.take_zero, List.nil_append, List.append_nil] at hrun
  have hrun2 : (execOp a.eval o).run P w = .ok .skip (w.setRow b (a.eval y).cells.toList.toArray) := by
    simp only [execOp, ho, h1, Instr.storeAt, Instr.sureAddr, storeVar]
    simp [run_size hz, hcells, hrun]
  rw [hrun2]
  obtain ⟨h7, h8⟩ := HpH.write (qs := qs) (cs := (a.eval y).cells.toList) hI hj' h2 h3
  refine ⟨M, trivial, h8, ?_⟩
  have hat : (SR.at_ (a.put o.dst undef) ⟨s, ptrRes T qs⟩) = cellsRes true b T qs := by
    rw [hd]; show ptrRes T qs (a.tmps.getD s undef) = _; rw [h1t]; rfl
  rw [hat]; exact h7
theorem Fin.opn {Q : Exit → Act → World → Prop} {x : Exit} (s j : Nat) {v : Value} {f : Value → Res} (g : Nat → Res) (hs : E.lookup s = some (andIs v (Cp.ex fun b => ptr b 0))) (hi : rs[j]? = some (f v)) (hf : ∀ b, f (.pointer (some ⟨b, 0, none⟩)) = g b)
    (k : ∀ b, Fin n ((s, ptr b 0) :: E) (Hp M0 w0 S (rs.set j (g b))) Q x) : Fin n E (Hp M0 w0 S rs) Q x := by
  intro a w hst
  obtain ⟨M, h1, h2, he, h4⟩ := hst
  obtain ⟨h5, b, h6⟩ := he s _ hs
  have hv : v = .pointer (some ⟨b, 0, none⟩) := by rw [← h5]; exact h6
  have hj : rs.set j (g b) = rs := by
    have hjl : j < rs.length := by rcases Nat.lt_or_ge j rs.length with h | h; exact h; rw [List.getElem?_eq_none h] at hi; cases hi
    rw [← hf b, ← hv]
    rw [List.getElem?_eq_getElem hjl] at hi
    simp at hi
    rw [← hi, List.set_getElem_self]
  refine k b a w ⟨M, h1, h2, ?_, by rw [hj]; exact h4⟩
  intro t q hq
  simp only [List.lookup] at hq
  by_cases ht : t = s
  · subst ht; simp at hq; subst hq; exact h6
  · rw [show (t == s) = false by simpa using ht] at hq; exact he t q hq
end
end Cp
namespace Cp
open Go Go.RowKit Go.Great

section
variable {P : Program} {n : Nat} {E : Env} {M0 : Av} {w0 : World} {S : Nat → Prop} {rs : List Res} {o : Oper}

/-- A slice of ours: nil, or its elements and what lies behind them. -/
def ownRes (e : TypeId) (sz : Nat) (rows : List (List Pr)) (v : Value) : Res where
  blk := match v with | .slice (some a) _ _ => some a.block | _ => none
  new := true
  h M w := (rows = [] ∧ v = .slice none 0 0) ∨ (mutRes e sz rows v).h M w
  st M w M' w' he hk h := h.imp id fun h => (mutRes e sz rows v).st M w M' w' he hk h
theorem HpH.frzO {M : Av} {w : World} {sz : Nat} {e : TypeId} {rows : List (List Pr)} {v : Value} {j : Nat} (h : HpH M0 w0 S rs M w) (hj : rs[j]? = some (ownRes e sz rows v)) (hl : ∀ r ∈ rows, r.length = sz) :
    ∃ M', Ext M w M' w ∧ HpH M0 w0 S (rs.set j (appRes e sz v)) M' w ∧ (slice sz rows).h M' w v := by
  have hjl : j < rs.length := by rcases Nat.lt_or_ge j rs.length with h | h; exact h; rw [List.getElem?_eq_none h] at hj; cases hj
  rcases (h.hold _ (List.mem_of_getElem? hj)).1 with ⟨rfl, rfl⟩ | hmut
  · exact ⟨M, Ext.refl _ _, h.swap1 hj rfl rfl (by intro a n c hv; cases hv), nil_slice sz M w _ rfl⟩
  · obtain ⟨b, cap, spare, rfl, hnc, hcm, hsp, hcr⟩ := hmut
    have hC := h.swap1 (r' := cellsRes true b e (rows.flatten ++ spare.map is)) hj rfl rfl hcr
    obtain ⟨M', h1, h2, h3⟩ := HpH.frz hC (List.getElem?_set_self hjl) hl hnc hcm (by rw [List.length_map]; exact hsp)
    rw [List.set_set] at h2
    exact ⟨M', h1, h2, h3⟩

end

section
variable {P : Program} {n : Nat} {E : Env} {M0 : Av} {w0 : World} {S : Nat → Prop} {rs : List Res} {o : Oper} {ops : Array Oper} {r : List Oper}
def FunR (P : Program) (f : FuncId) (args : List Pr) (res : Pr) (r : Res) (r' : Res) (r2 : Res) : Prop := Entry P f ∧ ∀ M0 w0 S rs M w vs, HpH M0 w0 S (r :: r2 :: rs) M w → HL M w args vs →
  Calls P f vs.toArray w fun e w' => ∃ v M', e = .returned v ∧ res.h M' w' v ∧ Ext M w M' w' ∧ HpH M0 w0 S (r' :: r2 :: rs) M' w'
theorem FunR.of {f : FuncId} {g : Func} {c : Code} {ps : List Pr} {res : Pr} {R R' R2 : Res} (hf : P.funcs[f]? = some g) (hb : g.body = some c) (hname : (g.name == "runtime.NumGoroutine") = false) (hlen : ps.length ≤ g.ntmps)
    (h : ∀ M0 w0 S rs M1 w1, Tr P g.ntmps (penv 0 ps) (Hp M0 w0 S (R :: extRes M1 w1 :: R2 :: rs)) c (bodyPost P g (BackM M0 w0 S (R2 :: rs) M1 w1 res (fun _ => R')))) : FunR P f ps res R R' R2 := by
  refine ⟨⟨g, hf, hname, by rw [hb]; rfl⟩, fun M0 w0 S rs M w vs hI hv => ?_⟩
  refine calls_of_wp hf hb (h M0 w0 S rs M w _ _ ⟨M, ?_, rfl, enter_env hv, ?_⟩)
  · have := hv.length
    simp [this]; omega
  · exact HpH.perm (List.Perm.swap _ _ _) (HpH.add0 hI (r := extRes M w) rfl (Ext.refl _ _))
end
end Cp
namespace Cp
open Go Go.RowKit Go.Great

abbrev anyK (k : IntKind) : Pr := Cp.ex fun i : Int => is (.int k i)
theorem is_anyK (k : IntKind) (i : Int) : Pr.le (is (.int k i)) (anyK k) := fun _ _ _ h => ⟨i, h⟩
section
variable {P : Program} {I : Asn} {o : Oper} {E : Env}
theorem ok_bits {op : BinOp} {t u : TypeId} {x y : Operand} {k : IntKind} (hop : (op == .xor || op == .or) = true) (ho : o.op = .binOp op t x y u) (hx : VL E x (anyK k)) (hy : VL E y (anyK k)) : OpOK P I o E (anyK k) :=
  OpOK.same fun M w a he _ => by
    obtain ⟨m, h1⟩ := hx.ev he (by simp [ho, Op.operands])
    obtain ⟨n, h2⟩ := hy.ev he (by simp [ho, Op.operands])
    have h1 : a.eval x = .int k m := h1
    have h2 : a.eval y = .int k n := h2
    cases op <;> simp at hop <;> exact ⟨_, by simp [execOp, ho, h1, h2, eqGuard, binOp, Op.intBits]; rfl, _, rfl⟩
theorem ok_addK {t u : TypeId} {x y : Operand} {k : IntKind} (ho : o.op = .binOp .add t x y u) (hx : VL E x (anyK k)) (hy : VL E y (anyK k)) : OpOK P I o E (anyK k) :=
  OpOK.same fun M w a he _ => by
    obtain ⟨m, h1⟩ := hx.ev he (by simp [ho, Op.operands])
    obtain ⟨n, h2⟩ := hy.ev he (by simp [ho, Op.operands])
    have h1 : a.eval x = .int k m := h1
    have h2 : a.eval y = .int k n := h2
    exact ⟨_, by simp [execOp, ho, h1, h2, eqGuard, binOp, Op.intArith]; rfl, _, rfl⟩
end
end Cp
namespace Cp
open Go Go.RowKit Go.Great

section
variable {P : Program} {n : Nat} {E : Env} {M0 : Av} {w0 : World} {S : Nat → Prop} {rs : List Res} {o : Oper} {β : Type} {b : Nat} {e : TypeId} {f : β → List Pr} {qs : List Pr} {Φ : List β → Prop}
instance (priority := 300) nrm_nott (b : Bool) (p : Prop) [h : Nrm b false p] : Nrm (!b) true p := ⟨fun e => h.nrm (by simpa using e)⟩
instance (priority := 300) nrm_notf (b : Bool) (p : Prop) [h : Nrm b true p] : Nrm (!b) false p := ⟨fun e => h.nrm (by simpa using e)⟩
end
end Cp
namespace Cp
open Go.Sort

section
variable {β : Type} [Inhabited β] {c : β × β → Int} {st : List β} {a b i j : Int}
def ltc (c : β × β → Int) (x y : β) : Bool := decide (c (x, y) < 0)
theorem gx (h : i.toNat < st.length) : st.toArray[i.toNat]! = st[i.toNat] := by simp [h]
theorem sw (hi : i.toNat < st.length) (hj : j.toNat < st.length) : ((st.set i.toNat (st[j.toNat]'hj)).set j.toNat (st[i.toNat]'hi)).toArray = swp st.toArray i.toNat j.toNat := by
  unfold swp
  rw [gx hi, gx hj]
  simp [Array.setIfInBounds_def, hi, hj]
omit [Inhabited β] in
theorem lt_no {x y : β} (h : ¬ c (x, y) < 0) : ltc c x y = false := decide_eq_false h

variable {hi F r : Int}
variable {lt : β → β → Bool} {a0 b0 m n : Nat} {l s s' : Array β}
structure PS (lt : β → β → Bool) (a0 b0 a b : Nat) (l s : Array β) : Prop where
  ha : a0 ≤ a
  hab : a ≤ b
  hb : b ≤ b0
  hp : PermIn a0 b0 l s
  below : Below lt a b s
  out : ∀ i j, a0 ≤ i → i < j → j < b0 → (i < a ∨ b ≤ j) → lt s[j]! s[i]! = false
theorem PS.perm (h : PS lt a0 b0 m n l s) (hs : b0 ≤ l.size) (hq : PermIn m n s s') : PS lt a0 b0 m n l s' := by
  have hsz : s.size = l.size := h.hp.1
  have hns : n ≤ s.size := by have := h.hb; omega
  refine ⟨h.ha, h.hab, h.hb, permIn_trans _ _ _ _ _ h.hp (permIn_mono _ _ _ _ _ _ h.ha h.hb (by omega) hq), Below.permA permIn_all hns h.below hq, fun i j h1 h2 h3 h4 => ?_⟩
  have hm := h.hab
  by_cases hi : m ≤ i ∧ i < n
  · have hj : n ≤ j := by omega
    rw [hq.2.1 j (.inr hj)]
    exact permIn_all s s' m n (fun x => lt s[j]! x = false) hns hq (fun k hk1 hk2 => h.out k j (by have := h.ha; omega) (by omega) h3 (.inr hj)) i hi.1 hi.2
  · rw [hq.2.1 i (by omega)]
    by_cases hj : m ≤ j ∧ j < n
    · exact permIn_all s s' m n (fun x => lt x s[i]! = false) hns hq (fun k hk1 hk2 => h.out i k h1 (by omega) (by have := h.hb; omega) (.inl (by omega))) j hj.1 hj.2
    · rw [hq.2.1 j (by omega)]; exact h.out i j h1 h2 h3 h4
theorem PS.done (h : PS lt a0 b0 m n l s) (hs : SortedIn lt m n s) : PermIn a0 b0 l s ∧ SortedIn lt a0 b0 s := by
  refine ⟨h.hp, fun i j h1 h2 h3 => ?_⟩
  by_cases hh : i < m ∨ n ≤ j
  · exact h.out i j h1 h2 h3 hh
  · exact hs i j (by omega) h2 (by omega)
theorem PS.eq (hw : SWO lt) (h : PS lt a0 b0 m n l s) (hs : b0 ≤ l.size) {pv : β} {k : Nat} (hm : 0 < m) (hpv : lt s[m - 1]! pv = false) (hk : m < k) (hkn : k ≤ n) (hq : PermIn m n s s') (h1 : ∀ i, m ≤ i → i < k → lt pv s'[i]! = false) (h2 : ∀ i, k ≤ i → i < n → lt pv s'[i]! = true) :
    PS lt a0 b0 k n l s' := by
  have h' := h.perm hs hq
  have hle : ∀ j, m ≤ j → j < n → lt s'[j]! pv = false := by
    intro j hj1 hj2
    by_cases hjk : k ≤ j
    · exact hw.asym (h2 j hjk hj2)
    · have hb := h'.below
      rcases hb with hb | hb
      · omega
      · have hb := hb j hj1 hj2
        rw [hq.2.1 (m - 1) (.inl (by omega))] at hb
        exact hw.ntrans _ _ _ hb hpv
  have key : ∀ i j, m ≤ i → i < k → m ≤ j → j < n → lt s'[j]! s'[i]! = false := fun i j ha hb hc hd => hw.ntrans _ _ _ (hle j hc hd) (h1 i ha hb)
  refine ⟨by have := h.ha; omega, hkn, h.hb, h'.hp, .inr fun i hi1 hi2 => key (k - 1) i (by omega) (by omega) (by omega) hi2, fun i j g1 g2 g3 g4 => ?_⟩
  by_cases hh : i < m ∨ n ≤ j
  · exact h'.out i j g1 g2 g3 hh
  · exact key i j (by omega) (by omega) (by omega) (by omega)
/-- What a partition yields. -/
structure Parted (lt : β → β → Bool) (m n k : Nat) (s : Array β) : Prop where
  h1 : m ≤ k
  h2 : k < n
  lo : ∀ i, m ≤ i → i < k → lt s[i]! s[k]! = true
  up : ∀ i, k < i → i < n → lt s[i]! s[k]! = false
theorem PS.left (hw : SWO lt) {k : Nat} (h : PS lt a0 b0 m n l s) (hs : b0 ≤ l.size) (hp : Parted lt m n k s) (hq : PermIn m k s s') (hso : SortedIn lt m k s') : PS lt a0 b0 (k + 1) n l s' := by
  obtain ⟨h1, h2, lo, up⟩ := hp
  have hsz : s.size = l.size := h.hp.1
  have hks : k ≤ s.size := by have := h.hb; omega
  have hq2 : PermIn m n s s' := permIn_mono _ _ _ _ _ _ (Nat.le_refl _) (by omega) (by have := h.hb; omega) hq
  have h' := h.perm hs hq2
  have ek : s'[k]! = s[k]! := hq.2.1 k (.inr (Nat.le_refl _))
  have lo' : ∀ i, m ≤ i → i < k → lt s'[i]! s[k]! = true := fun i g1 g2 => permIn_all s s' m k (fun x => lt x s[k]! = true) hks hq lo i g1 g2
  have up' : ∀ i, k < i → i < n → lt s'[i]! s[k]! = false := fun i g1 g2 => by rw [hq.2.1 i (.inr (by omega))]; exact up i g1 g2
  refine ⟨by have := h.ha; omega, by omega, h.hb, h'.hp, .inr fun i g1 g2 => ?_, fun i j g1 g2 g3 g4 => ?_⟩
  · rw [show k + 1 - 1 = k by omega, ek]; exact up' i (by omega) g2
  · by_cases hh : i < m ∨ n ≤ j
    · exact h'.out i j g1 g2 g3 hh
    · rcases Nat.lt_trichotomy i k with hik | hik | hik
      · rcases Nat.lt_trichotomy j k with hjk | hjk | hjk
        · exact hso i j (by omega) g2 hjk
        · subst hjk; rw [ek]; exact hw.asym (lo' i (by omega) hik)
        · exact hw.ntrans _ _ _ (up' j hjk (by omega)) (hw.asym (lo' i (by omega) hik))
      · subst hik; rw [ek]; exact up' j g2 (by omega)
      · omega
theorem PS.right (hw : SWO lt) {k : Nat} (h : PS lt a0 b0 m n l s) (hs : b0 ≤ l.size) (hp : Parted lt m n k s) (hq : PermIn (k + 1) n s s') (hso : SortedIn lt (k + 1) n s') : PS lt a0 b0 m k l s' := by
  obtain ⟨h1, h2, lo, up⟩ := hp
  have hsz : s.size = l.size := h.hp.1
  have hns : n ≤ s.size := by have := h.hb; omega
  have hq2 : PermIn m n s s' := permIn_mono _ _ _ _ _ _ (by omega) (Nat.le_refl _) hns hq
  have h' := h.perm hs hq2
  have ek : s'[k]! = s[k]! := hq.2.1 k (.inl (by omega))
  have lo' : ∀ i, m ≤ i → i < k → lt s'[i]! s[k]! = true := fun i g1 g2 => by rw [hq.2.1 i (.inl (by omega))]; exact lo i g1 g2
  have up' : ∀ i, k < i → i < n → lt s'[i]! s[k]! = false := fun i g1 g2 => permIn_all s s' (k + 1) n (fun x => lt x s[k]! = false) hns hq (fun i q1 q2 => up i (by omega) q2) i (by omega) g2
  refine ⟨h.ha, h1, by have := h.hb; omega, h'.hp, ?_, fun i j g1 g2 g3 g4 => ?_⟩
  · rcases h'.below with hb | hb
    · exact .inl hb
    · exact .inr fun i q1 q2 => hb i q1 (by omega)
  · by_cases hh : i < m ∨ n ≤ j
    · exact h'.out i j g1 g2 g3 hh
    · rcases Nat.lt_trichotomy i k with hik | hik | hik
      · rcases Nat.lt_trichotomy j k with hjk | hjk | hjk
        · omega
        · subst hjk; rw [ek]; exact hw.asym (lo' i (by omega) hik)
        · exact hw.ntrans _ _ _ (up' j hjk (by omega)) (hw.asym (lo' i (by omega) hik))
      · subst hik; rw [ek]; exact up' j g2 (by omega)
      · exact hso i j (by omega) g2 (by omega)
end

section
variable {β : Type} [Inhabited β] {c : β × β → Int} {st : List β}
def Adj (c : β × β → Int) (a b : Int) (l : List β) : Prop := ∀ k, a.toNat < k → k < b.toNat → ltc c l.toArray[k]! l.toArray[k - 1]! = false
theorem Adj.go {a i k : Int} (h : Adj c a i st) (h0 : 0 ≤ a) (ha : a < i) (hk : k = i - 1) (hi : i.toNat < st.length) (hk' : k.toNat < st.length) (hc : 0 ≤ c (st[i.toNat]'hi, st[k.toNat]'hk')) : Adj c a (i + 1) st := fun m h1 h2 => by
  rcases Nat.lt_or_ge m i.toNat with hm | hm
  · exact h m h1 hm
  · have e : m = i.toNat := by omega
    subst e
    rw [show i.toNat - 1 = k.toNat by omega, gx hi, gx hk']; exact lt_no (by omega)
end

section
variable {β : Type} [Inhabited β]
/-- Elements from a on, up to b, were exchanged among themselves. -/
def PermL (a b : Int) (l st : List β) : Prop := PermIn a.toNat b.toNat l.toArray st.toArray
/-- And are ascending there. -/
def SortL (c : β × β → Int) (a b : Int) (l st : List β) : Prop := PermIn a.toNat b.toNat l.toArray st.toArray ∧ SortedIn (ltc c) a.toNat b.toNat st.toArray
theorem PermL.len {a b : Int} {l st : List β} (h : PermL a b l st) : st.length = l.length := by have := h.1; simpa using this
theorem SortL.len {c : β × β → Int} {a b : Int} {l st : List β} (h : SortL c a b l st) : st.length = l.length := by have := h.1.1; simpa using this
def SiftL (c : β × β → Int) (hi first lo : Int) (l st : List β) : Prop := st.length = l.length ∧ st.toArray = siftDown (ltc c) hi.toNat first.toNat lo.toNat l.toArray
theorem SiftL.len {c : β × β → Int} {hi first lo : Int} {l st : List β} (h : SiftL c hi first lo l st) : st.length = l.length := h.1
abbrev PE (c : β × β → Int) (a b pv : Int) (l : List β) : Nat × Array β := partitionEqual (ltc c) l.toArray a.toNat b.toNat pv.toNat
abbrev PA (c : β × β → Int) (a b pv : Int) (l : List β) : Nat × Bool × Array β := partition (ltc c) l.toArray a.toNat b.toNat pv.toNat
def PartE (c : β × β → Int) (a b pv : Int) (l st : List β) : Prop := st.length = l.length ∧ st.toArray = (PE c a b pv l).2
def PartL (c : β × β → Int) (a b pv : Int) (l st : List β) : Prop := st.length = l.length ∧ st.toArray = (PA c a b pv l).2.2
theorem PartE.len {c : β × β → Int} {a b pv : Int} {l st : List β} (h : PartE c a b pv l st) : st.length = l.length := h.1
theorem PartL.len {c : β × β → Int} {a b pv : Int} {l st : List β} (h : PartL c a b pv l st) : st.length = l.length := h.1
theorem PermL.refl (a b : Int) (l : List β) : PermL a b l l := permIn_refl _ _ _
theorem PermL.swap {a b i j : Int} {l st : List β} (h : PermL a b l st) (hi : i.toNat < st.length) (hj : j.toNat < st.length) (h1 : a.toNat ≤ i.toNat) (h2 : i.toNat < b.toNat) (h3 : a.toNat ≤ j.toNat) (h4 : j.toNat < b.toNat) (hb : b.toNat ≤ l.length) :
    PermL a b l ((st.set i.toNat (st[j.toNat]'hj)).set j.toNat (st[i.toNat]'hi)) := by
  unfold PermL
  rw [sw hi hj]
  exact permIn_trans _ _ _ _ _ h (swp_permIn _ _ _ _ _ h1 h2 h3 h4 (by have := h.len; simp; omega))
theorem PermL.trans {a b : Int} {l m st : List β} (h : PermL a b l m) (k : PermL a b m st) : PermL a b l st := permIn_trans _ _ _ _ _ h k
end
section
open Go
variable {P : Program} {n : Nat} {E : Env} {M0 : Av} {w0 : World} {S : Nat → Prop} {rs : List Res} {new : Bool} {b : Nat} {T : TypeId} {ps : List Pr}
end
end Cp
namespace Cp
open Go Go.RowKit Go.Great
section
variable {P : Program} {n : Nat} {E : Env} {I : Asn} {Q : Exit → Act → World → Prop}
end
end Cp
namespace Cp
open Go Go.RowKit Go.Great
section
variable {P : Program} {n : Nat} {E : Env} {M0 : Av} {w0 : World} {S : Nat → Prop} {rs : List Res} {β : Type} {e : TypeId} {sz : Nat} {f : β → List Pr} {Φ : List β → Prop} {v : Value}
end
end Cp
namespace Cp
open Go Go.RowKit Go.Great
section
variable {P : Program} {n : Nat} {E : Env} {M0 : Av} {w0 : World} {S : Nat → Prop} {rs : List Res} {o : Oper}
end
end Cp
namespace Cp
open Go Go.RowKit Go.Great
section
variable {P : Program} {n : Nat} {E : Env} {M0 : Av} {w0 : World} {S : Nat → Prop} {rs : List Res} {ε : Type} {res : ε → List Res}
def tab (res : ε → List Res) (es : List ε) : List Res := es.flatMap res
theorem tab_at : ∀ {es : List ε} {k : Nat} {x : ε}, es[k]? = some x → (tab res es).Perm (res x ++ tab res (es.eraseIdx k))
  | [], _, _, h => by simp at h
  | a :: es, 0, x, h => by
    simp only [List.getElem?_cons_zero, Option.some.injEq] at h
    subst h
    exact List.Perm.refl _
  | a :: es, k + 1, x, h => by
    have ih := tab_at (es := es) (k := k) (x := x) (by simpa using h)
    show (res a ++ tab res es).Perm (res x ++ (res a ++ tab res (es.eraseIdx k)))
    refine (ih.append_left (res a)).trans ?_
    rw [← List.append_assoc, ← List.append_assoc]
    exact List.perm_append_comm.append_right _
theorem perm_front {a b c : List Res} (h : b.Perm c) : (a ++ b).Perm (a ++ c) := h.append_left a
theorem St.perm {rs' : List Res} (hp : rs.Perm rs') {a : Act} {w : World} (h : St n E (Hp M0 w0 S rs) a w) : St n E (Hp M0 w0 S rs') a w := by
  obtain ⟨M, h1, h2, h3, h4⟩ := h
  exact ⟨M, h1, h2, h3, HpH.perm hp h4⟩
/-- The resources of the k-th are brought to the front. -/
theorem Tr.focus {Q : Exit → Act → World → Prop} {c : Code} (heads : List Res) {es : List ε} {k : Nat} {x : ε} (hx : es[k]? = some x) (hrs : rs = heads ++ tab res es) (kk : Tr P n E (Hp M0 w0 S (res x ++ (heads ++ tab res (es.eraseIdx k)))) c Q) : Tr P n E (Hp M0 w0 S rs) c Q :=
  Tr.conv (fun _ _ hs => hs.perm (by
    subst hrs
    refine (perm_front (tab_at hx)).trans ?_
    rw [← List.append_assoc, ← List.append_assoc]
    exact List.perm_append_comm.append_right _)) kk
end
end Cp
namespace Cp
open Go Go.RowKit Go.Great
section
variable {P : Program} {n : Nat} {E : Env} {M0 : Av} {w0 : World} {S : Nat → Prop} {rs : List Res} {o : Oper}
end
end Cp
namespace Cp
open Go Go.RowKit Go.Great
section
variable {P : Program} {n : Nat} {E : Env} {M0 : Av} {w0 : World} {S : Nat → Prop} {rs : List Res} {o : Oper}
theorem FunM.own_of_mut {f : FuncId} {e : TypeId} {sz : Nat} {rows : List (List Pr)} {ps : List Pr} {res : Pr} {R : Res} (h : FunM P f ps res R (fun v => mutRes e sz rows v)) : FunM P f ps res R (fun v => ownRes e sz rows v) := by
  refine ⟨h.1, fun M0 w0 S rs M w vs hI hv => (h.2 M0 w0 S rs M w vs hI hv).mono ?_⟩
  rintro e' w' ⟨v, M', rfl, h2, h3, h4⟩
  exact ⟨v, M', rfl, h2, h3, h4.swap1 (i := 0) rfl rfl rfl (.inr (h4.hold _ (List.mem_cons_self ..)).1)⟩
instance free_tup2 (p q : Pr) [Free p] [Free q] : Free (tup [p, q]) := ⟨fun M M' w v ⟨cs, h1, h2⟩ => ⟨cs, h1, by
  match cs, h2 with
  | [a, b], h2 => exact ⟨Free.free _ _ _ _ h2.1, Free.free _ _ _ _ h2.2.1, trivial⟩⟩⟩
end
end Cp
namespace Cp
open Go Go.RowKit Go.Great
section
variable {P : Program} {n : Nat} {E : Env} {M0 : Av} {w0 : World} {S : Nat → Prop} {o : Oper}
end
section
variable {P : Program} {n : Nat} {E : Env} {M0 : Av} {w0 : World} {S : Nat → Prop} {rs : List Res} {ε : Type} {res : ε → List Res}
end
section
variable {P : Program} {n : Nat} {E : Env} {M0 : Av} {w0 : World} {S : Nat → Prop} {o : Oper}
end
end Cp
namespace Cp
open Go Go.RowKit
section
variable {P : Program} {I : Asn} {o : Oper} {E : Env}
theorem ok_pickOr {c y : Operand} {b d : Bool} (ho : o.op = .pick c (.const (.bool true)) y) (hc : VL E c (bool b)) (hy : VL E y (bool d)) : OpOK P I o E (bool (b || d)) := by
  cases b with
  | true => exact ok_pick_t ho hc rfl (vl rfl)
  | false => exact ok_pick_f ho hc rfl hy
theorem ok_pickAnd {c x : Operand} {b d : Bool} (ho : o.op = .pick c x (.const (.bool false))) (hc : VL E c (bool b)) (hx : VL E x (bool d)) : OpOK P I o E (bool (b && d)) := by
  cases b with
  | true => exact ok_pick_t ho hc rfl hx
  | false => exact ok_pick_f ho hc rfl (vl rfl)
end
section
variable {P : Program} {n : Nat} {E : Env} {M0 : Av} {w0 : World} {S : Nat → Prop} {rs : List Res} {o : Oper}
end
end Cp
namespace Cp
open Go Go.RowKit Go.Great
def FunL {α : Type} (P : Program) (f : FuncId) (args : List Pr) (pre : List Res) (C : α → Prop) (res : α → Pr) (post : α → List Res) : Prop := Entry P f ∧ ∀ M0 w0 S rs M w vs, HpH M0 w0 S (pre ++ rs) M w → HL M w args vs →
  Calls P f vs.toArray w fun e w' => ∃ v M' x, e = .returned v ∧ C x ∧ (res x).h M' w' v ∧ Ext M w M' w' ∧ HpH M0 w0 S (post x ++ rs) M' w'
def BackL {α : Type} (M0 : Av) (w0 : World) (S : Nat → Prop) (rs : List Res) (M1 : Av) (w1 : World) (C : α → Prop) (res : α → Pr) (post : α → List Res) (e : Ending) (w' : World) : Prop := ∃ v M' x, e = .returned v ∧ C x ∧ (res x).h M' w' v ∧ Ext M1 w1 M' w' ∧ HpH M0 w0 S (post x ++ rs) M' w'
section
variable {P : Program} {n : Nat} {E : Env} {M0 : Av} {w0 : World} {S : Nat → Prop} {rs : List Res} {α : Type} {pre : List Res} {C : α → Prop} {res : α → Pr} {post : α → List Res} {M1 : Av} {w1 : World} {g : Func} {o : Oper} {r : List Oper} {ops : Array Oper}
theorem FunL.of {f : FuncId} {c : Code} {ps : List Pr} (hf : P.funcs[f]? = some g) (hb : g.body = some c) (hname : (g.name == "runtime.NumGoroutine") = false) (hlen : ps.length ≤ g.ntmps)
    (h : ∀ M0 w0 S rs M1 w1, Tr P g.ntmps (penv 0 ps) (Hp M0 w0 S (pre ++ extRes M1 w1 :: rs)) c (bodyPost P g (BackL M0 w0 S rs M1 w1 C res post))) : FunL P f ps pre C res post := by
  refine ⟨⟨g, hf, hname, by rw [hb]; rfl⟩, fun M0 w0 S rs M w vs hI hv => ?_⟩
  refine calls_of_wp hf hb (h M0 w0 S rs M w _ _ ⟨M, ?_, rfl, enter_env hv, ?_⟩)
  · have := hv.length
    simp [this]; omega
  · exact HpH.perm List.perm_middle.symm (HpH.add0 hI (r := extRes M w) rfl (Ext.refl _ _))
theorem HpH.callL {M : Av} {w : World} {f : FuncId} {args : List Pr} {rest : List Res} (hf : FunL P f args pre C res post) (hp : rs.Perm (pre ++ rest)) (hI : HpH M0 w0 S rs M w) {vs : List Value} (hv : HL M w args vs) :
    Calls P f vs.toArray w fun e w' => ∃ v M' x, e = .returned v ∧ C x ∧ (res x).h M' w' v ∧ Ext M w M' w' ∧ HpH M0 w0 S (post x ++ rest) M' w' := hf.2 M0 w0 S rest M w vs (HpH.perm hp hI) hv
theorem TO.callL {Q : Exit → Act → World → Prop} {f : FuncId} {xs : Array Operand} {ts : Array TypeId} {ps : List Pr} (rest : List Res) {d : Nat} (hg : o.guard = none) (hd : o.dst = some d) (hn : d < n) (ho : o.op = .call { callee := .value (.func f), args := xs, argTypes := ts }) (hf : FunL P f ps pre C res post)
    (hv : Vals E xs.toList ps) (hp : rs.Perm (pre ++ rest)) (k : ∀ x, C x → TO P n ops r ((d, res x) :: E) (Hp M0 w0 S (post x ++ rest)) Q) : TO P n ops (o :: r) E (Hp M0 w0 S rs) Q :=
  TO.eff hg fun K M w a hsz hdf he hI hK => by
    have hI : HpH M0 w0 S rs M w := hI
    have h1 := Vals.evalFor (o := o) (looks_env he) (xs := xs.toList) (fun x hx => by simp [ho, Op.operands, Call.operands]; exact .inr (by simpa using hx)) hv
    have hrun : (execOp a.eval o).run P w = .ok (.enter f (xs.toList.map a.eval).toArray) w := by
      simp [execOp, ho, resolve, Deferred.ofValue, Act.eval, invoke, run_callFunc hf.1, map_list xs]
    unfold Oper.wp
    rw [hrun]
    refine (HpH.callL hf hp hI h1).mono ?_
    rintro e w' ⟨v, M', x, rfl, hC, h2, h3, h4⟩
    refine hK _ _ _ _ (k x hC) ⟨M', by rw [put_size]; exact hsz, by rw [put_defers]; exact hdf, ?_, h4⟩
    intro s q hq
    simp only [List.lookup] at hq
    by_cases hs : s = d
    · subst hs; simp at hq; subst hq; rw [hd, put_same (by rw [hsz]; exact hn)]; exact h2
    · rw [show (s == d) = false by simpa using hs] at hq; rw [hd, put_other hs]; exact q.st _ _ _ _ _ h3 (he s q hq)
theorem outL {l : List Res} {M : Av} {w : World} (h : HpH M0 w0 S (l ++ extRes M1 w1 :: rs) M w) : Ext M1 w1 M w ∧ HpH M0 w0 S (l ++ rs) M w :=
  ⟨(h.hold (extRes M1 w1) (by simp)).1, (HpH.perm List.perm_middle h).drop1⟩
end
end Cp
namespace Cp
open Go Go.RowKit Go.Great
section
variable {P : Program} {n : Nat} {E : Env} {M0 : Av} {w0 : World} {S : Nat → Prop} {rs : List Res} {o : Oper}
def oweBlk : Value → Option Nat
  | .slice (some a) _ (_ + 1) => some a.block
  | _ => none
/-- A slice of ours: nothing (nil or not), or its elements and what lies behind them. -/
def oweRes (e : TypeId) (sz : Nat) (rows : List (List Pr)) (v : Value) : Res where
  blk := oweBlk v
  new := true
  h M w := (rows = [] ∧ ∃ A, v = .slice A 0 0) ∨ (∃ (b cap : Nat) (spare : List Value), v = .slice (some ⟨b, 0, none⟩) rows.length (cap + 1) ∧ rows.length ≤ cap + 1 ∧ cap + 1 ≤ maxLen ∧ spare.length = (cap + 1 - rows.length) * sz ∧ (cellsRes true b e (rows.flatten ++ spare.map is)).h M w)
  st M w M' w' he hk h := by
    rcases h with h | ⟨b, cap, spare, rfl, h1, h2, h3, h4⟩
    · exact .inl h
    · exact .inr ⟨b, cap, spare, rfl, h1, h2, h3, (cellsRes true b e _).st _ _ _ _ he hk h4⟩
theorem lt_of_at {α : Type} {l : List α} {j : Nat} {x : α} (h : l[j]? = some x) : j < l.length := by
  rcases Nat.lt_or_ge j l.length with h' | h'
  · exact h'
  · rw [List.getElem?_eq_none h'] at h; cases h
theorem HpH.blank {M : Av} {w : World} {j : Nat} {r : Res} (h : HpH M0 w0 S rs M w) (hj : rs[j]? = some r) : HpH M0 w0 S (rs.set j noRes) M w :=
  HpH.perm (perm_set (lt_of_at hj)) ((HpH.perm (perm_at hj) h).drop1.add0 (r := noRes) rfl trivial)
theorem void_slice (sz : Nat) (A : Option Addr) (M : Av) (w : World) : (slice sz []).h M w (.slice A 0 0) := ⟨A, 0, rfl, Nat.le_refl _, Nat.zero_le _, fun _ => rfl, fun i row h => by simp at h⟩
theorem void_full (sz : Nat) (A : Option Addr) (M : Av) (w : World) : (full sz []).h M w (.slice A 0 0) := ⟨void_slice sz A M w, A, rfl⟩
/-- It is turned no more. -/
theorem HpH.frzW {M : Av} {w : World} {sz : Nat} {e : TypeId} {rows : List (List Pr)} {v : Value} {j : Nat} (h : HpH M0 w0 S rs M w) (hj : rs[j]? = some (oweRes e sz rows v)) (hl : ∀ r ∈ rows, r.length = sz) :
    ∃ M', Ext M w M' w ∧ HpH M0 w0 S (rs.set j noRes) M' w ∧ (slice sz rows).h M' w v := by
  have hjl := lt_of_at hj
  rcases (h.hold _ (List.mem_of_getElem? hj)).1 with ⟨rfl, A, rfl⟩ | ⟨b, cap, spare, rfl, hnc, hcm, hsp, hcr⟩
  · exact ⟨M, Ext.refl _ _, h.blank hj, void_slice sz A M w⟩
  · have hC := h.swap1 (r' := cellsRes true b e (rows.flatten ++ spare.map is)) hj rfl rfl hcr
    obtain ⟨M', h1, h2, h3⟩ := HpH.frz hC (List.getElem?_set_self hjl) hl hnc hcm (by rw [List.length_map]; exact hsp)
    have h4 := h2.blank (j := j) (by rw [List.set_set]; exact List.getElem?_set_self hjl)
    rw [List.set_set, List.set_set] at h4
    exact ⟨M', h1, h4, h3⟩
theorem HL.set {M : Av} {w : World} {ps : List Pr} {vs : List Value} {k : Nat} {p q : Pr} (h : HL M w ps vs) (hk : ps[k]? = some p) (hq : ∀ u, p.h M w u → q.h M w u) : HL M w (ps.set k q) vs := by
  refine hl_of (by rw [h.length]; simp) fun k' p' hk' => ?_
  rw [List.getElem?_set] at hk'
  split at hk'
  · rename_i e1
    subst e1
    split at hk'
    · obtain ⟨u, hu, hpu⟩ := h.at_ k p hk
      simp at hk'; subst hk'
      exact ⟨u, hu, hq u hpu⟩
    · cases hk'
  · exact h.at_ k' p' hk'
/-- .. and a cell of ours holds it. -/
theorem HpH.frzWC {M : Av} {w : World} {i j k sz b : Nat} {new : Bool} {T e : TypeId} {ps : List Pr} {rows : List (List Pr)} {v : Value} (h : HpH M0 w0 S rs M w) (hi : rs[i]? = some (cellsRes new b T ps)) (hj : rs[j]? = some (oweRes e sz rows v)) (hij : j ≠ i) (hk : ps[k]? = some (is v)) (hl : ∀ r ∈ rows, r.length = sz) :
    ∃ M', Ext M w M' w ∧ HpH M0 w0 S ((rs.set j noRes).set i (cellsRes new b T (ps.set k (slice sz rows)))) M' w := by
  obtain ⟨M', h1, h2, h3⟩ := h.frzW hj hl
  have hi' : (rs.set j noRes)[i]? = some (cellsRes new b T ps) := by rw [List.getElem?_set_ne hij]; exact hi
  refine ⟨M', h1, h2.swap1 hi' rfl rfl ?_⟩
  obtain ⟨g1, cs, g2, g3, g4⟩ := (h2.hold _ (List.mem_of_getElem? hi')).1
  exact ⟨g1, cs, g2, g3.set hk (fun u hu => by rw [show u = v from hu]; exact h3), g4⟩
/-- What v[k:] makes of v. -/
def part (sz : Nat) (v : Value) (k : Nat) : Pr where
  h _ _ u := ∃ a m c, v = .slice a m c ∧ k ≤ m ∧ u = .slice (if c = k then a else a.map fun x => x.add (k * sz)) (m - k) (c - k)
  st _M _w _M' _w' _v _ h := h
instance one_part (sz : Nat) (v : Value) (k : Nat) : One (part sz v k) := ⟨by rintro M w u ⟨a, m, c, h1, h2, rfl⟩; exact ⟨rfl, rfl⟩⟩
/-- A slice that a function makes is turned no more. -/
theorem FunM.frz {f : FuncId} {args : List Pr} {e : TypeId} {sz m : Nat} {rows : List (List Pr)} {R : Res} (hl : ∀ r ∈ rows, r.length = sz) (h : FunM P f args (lens m) R (fun v => ownRes e sz rows v)) : FunM P f args (slice sz rows) R (fun _ => noRes) := by
  refine ⟨h.1, fun M0 w0 S rs M w vs hI hv => (h.2 M0 w0 S rs M w vs hI hv).mono ?_⟩
  rintro e' w' ⟨v, M', rfl, h2, h3, h4⟩
  obtain ⟨M2, j1, j2, j3⟩ := HpH.frzO (j := 0) h4 rfl hl
  exact ⟨v, M2, rfl, j3, h3.trans j1, j2.blank (j := 0) rfl⟩
theorem FunM.frzN {f : FuncId} {args : List Pr} {e : TypeId} {sz m : Nat} {rows : List (List Pr)} {R : Res} (hl : ∀ r ∈ rows, r.length = sz) (h : FunM P f args (lens m) R (fun v => mutRes e sz rows v)) : FunM P f args (slice sz rows) R (fun _ => noRes) :=
  FunM.frz hl (FunM.own_of_mut h)
theorem FunM.owe_of_mut {f : FuncId} {e : TypeId} {sz : Nat} {rows : List (List Pr)} {ps : List Pr} {res : Pr} {R : Res} (h0 : rows ≠ []) (h : FunM P f ps res R (fun v => mutRes e sz rows v)) : FunM P f ps res R (fun v => oweRes e sz rows v) := by
  refine ⟨h.1, fun M0 w0 S rs M w vs hI hv => (h.2 M0 w0 S rs M w vs hI hv).mono ?_⟩
  rintro e' w' ⟨v, M', rfl, h2, h3, h4⟩
  refine ⟨v, M', rfl, h2, h3, ?_⟩
  have hpos := List.length_pos_iff.2 h0
  obtain ⟨b, cap, spare, rfl, hnc, hcm, hsp, hcr⟩ := (h4.hold _ (List.mem_cons_self ..)).1
  cases cap with
  | zero => omega
  | succ cap => exact h4.swap1 (i := 0) rfl rfl rfl (.inr ⟨b, cap, spare, rfl, hnc, hcm, hsp, hcr⟩)
theorem FunM.owe_void {f : FuncId} {e : TypeId} {sz sz' : Nat} {ps : List Pr} (h : Fun P f ps (full sz' [])) : FunM P f ps (lens 0) noRes (fun v => oweRes e sz [] v) := by
  refine ⟨h.1, fun M0 w0 S rs M w vs hI hv => (h.2 M w vs hI.bd hv).mono ?_⟩
  rintro e' w' ⟨v, rfl, ⟨_, a, rfl⟩, h3⟩
  refine ⟨_, M, rfl, ⟨_, _, rfl⟩, Ext.below h3, ?_⟩
  have hI' : HpH M0 w0 S (noRes :: rs) M w' := (Hp M0 w0 S _).st _ _ _ h3 hI
  exact hI'.swap1 (i := 0) (r' := oweRes e sz [] (.slice a 0 0)) rfl (by cases a <;> rfl) rfl (.inl ⟨rfl, a, rfl⟩)

/-- A pointer into its i-th element. -/
def elp (sz : Nat) (v : Value) (i o : Nat) : Pr where
  h _ _ u := ∃ a m c, v = .slice (some a) m c ∧ u = .pointer (some (a.add (i * sz + o)))
  st _M _w _M' _w' _v _ h := h
instance one_elp (sz : Nat) (v : Value) (k o : Nat) : One (elp sz v k o) := ⟨by rintro M w u ⟨a, m, c, h1, rfl⟩; exact ⟨rfl, rfl⟩⟩
theorem rd_elp {t e : TypeId} {x y : Operand} {k : IntKind} {l : Int} {sz j : Nat} {T : TypeId} {rows : List (List Pr)} {v : Value} (ho : o.op = .indexAddr t x y) (ht : P.underlying t = some (.slice e)) (hz : sizeB P e = some sz) (hx : VL E x (is v)) (hy : VL E y (is (.int k l))) (h0 : 0 ≤ l) (hl : l < rows.length) :
    OpRd P M0 w0 S j (SR.c (oweRes T sz rows v)) o E (elp sz v l.toNat 0) := by
  intro M w a rs he hI hj
  have h1 : a.eval x = v := hx.ev he (by simp [ho, Op.operands])
  have h3 : a.eval y = .int k l := hy.ev he (by simp [ho, Op.operands])
  have hj' : rs[j]? = some (oweRes T sz rows v) := hj
  rcases (hI.hold _ (List.mem_of_getElem? hj')).1 with ⟨rfl, A, hv⟩ | ⟨b, cap, spare, hv, hnc, hcm, hsp, hcr⟩
  · simp at hl; omega
  · have hrun : (execOp a.eval o).run P w = .ok (.value (.pointer (some ((⟨b, 0, none⟩ : Addr).add (l.toNat * sz))))) w := by
      simp [execOp, ho, h1, h3, hv, Instr.indexAt, asIntOf, run_underlying ht, run_size hz, h0, hl]
    rw [hrun]
    exact ⟨⟨_, _, _, hv, rfl⟩, Below.refl _ _⟩
theorem ok_elfield {I : Asn} {t : TypeId} {x : Operand} {f sz i q off : Nat} {v : Value} (ho : o.op = .fieldAddr t x f) (hf : fieldOff P t f = some off) (hx : VL E x (elp sz v i q)) : OpOK P I o E (elp sz v i (q + off)) :=
  OpOK.same fun M w a he _ => by
    obtain ⟨a0, m0, c0, hv, h1⟩ := hx.ev he (by simp [ho, Op.operands])
    exact ⟨.pointer (some ((a0.add (i * sz + q)).add off)), by simp [execOp, ho, h1, run_fieldAt hf], a0, m0, c0, hv, by rw [add_add, Nat.add_assoc]⟩
theorem rd_elload {t : TypeId} {x : Operand} {sz j i : Nat} {T : TypeId} {rows : List (List Pr)} {row : List Pr} {v : Value} (ho : o.op = .load t x) (ht : aggB P t = true) (hz : sizeB P t = some sz) (hx : VL E x (elp sz v i 0)) (hl : ∀ r ∈ rows, r.length = sz) (hi : rows[i]? = some row) :
    OpRd P M0 w0 S j (SR.c (oweRes T sz rows v)) o E (agg row) := by
  intro M w a rs he hI hj
  obtain ⟨a0, m0, c0, hv0, h1⟩ := hx.ev he (by simp [ho, Op.operands])
  rw [Nat.add_zero] at h1
  have hj' : rs[j]? = some (oweRes T sz rows v) := hj
  rcases (hI.hold _ (List.mem_of_getElem? hj')).1 with ⟨rfl, A, hv⟩ | ⟨b, cap, spare, hv, hnc, hcm, hsp, ⟨_, cs, h4, h5, h6⟩⟩
  · simp at hi
  · rw [hv0] at hv
    injection hv with e1 e2 e3
    injection e1 with e1
    subst e1
    have hil := lt_of_at hi
    have hrl := hl row (List.mem_of_getElem? hi)
    have hfl := flat_len hl
    have hle : (i + 1) * sz ≤ rows.length * sz := Nat.mul_le_mul_right sz hil
    rw [Nat.add_mul] at hle
    have h7 : HL M w row ((cs.drop (i * sz)).take sz) := by
      have h8 := (h5.drop (i * sz)).take sz
      have e4 : ((rows.flatten ++ spare.map is).drop (i * sz)).take sz = row := by
        refine List.ext_getElem? fun j => ?_
        rw [List.getElem?_take]
        split
        · rename_i hj
          rw [List.getElem?_drop, List.getElem?_append_left (by rw [hfl]; omega), flat_at hl hi hj]
        · rw [List.getElem?_eq_none (by omega)]
      rwa [e4] at h8
    have hl' : ((cs.drop (i * sz)).take sz).length = sz := by rw [h7.length, hrl]
    have hrun : (loadCells ((⟨b, 0, none⟩ : Addr).add (i * sz)) sz).run P w = .ok ((cs.drop (i * sz)).take sz).toArray w := by
      have := run_loadCells_list (P := P) w ((⟨b, 0, none⟩ : Addr).add (i * sz)) ((cs.drop (i * sz)).take sz) (fun k u hk => by
        rw [add_add, addr_add]
        rw [List.getElem?_take] at hk
        split at hk
        · rw [List.getElem?_drop] at hk; simp [World.cell?, h4, hk]
        · cases hk)
      rwa [hl'] at this
    have hrun2 : (execOp a.eval o).run P w = .ok (.value (.agg ((cs.drop (i * sz)).take sz).toArray)) w := by simp [execOp, ho, h1, Instr.loadAt, Instr.sureAddr, loadVar, run_isAgg_agg ht, run_size hz, hrun]
    rw [hrun2]
    exact ⟨⟨_, rfl, fun c hc => h6 c (List.mem_of_mem_drop (List.mem_of_mem_take hc)), h7⟩, Below.refl _ _⟩

theorem set_flat {sz : Nat} : ∀ {rows : List (List Pr)} {i : Nat} {row : List Pr} {o : Nat} {qs S : List Pr}, (∀ r ∈ rows, r.length = sz) → rows[i]? = some row → o + qs.length ≤ sz →
    (rows.flatten ++ S).take (i * sz + o) ++ qs ++ (rows.flatten ++ S).drop (i * sz + o + qs.length) = (rows.set i (row.take o ++ qs ++ row.drop (o + qs.length))).flatten ++ S
  | [], _, _, _, _, _, _, h, _ => by simp at h
  | a :: l, 0, row, o, qs, S, hl, h, ho => by
    simp at h; subst h
    have h1 := hl a (by simp)
    rw [List.set_cons_zero, List.flatten_cons, List.flatten_cons, Nat.zero_mul, Nat.zero_add, List.append_assoc a, List.take_append_of_le_length (by omega), List.drop_append_of_le_length (by omega)]
    simp
  | a :: l, i + 1, row, o, qs, S, hl, h, ho => by
    have h1 := hl a (by simp)
    have ih := set_flat (S := S) (fun r hr => hl r (List.mem_cons_of_mem _ hr)) (i := i) (row := row) (o := o) (qs := qs) (by simpa using h) ho
    rw [List.set_cons_succ, List.flatten_cons, List.flatten_cons, List.append_assoc a, List.append_assoc a, ← ih, List.take_append, List.drop_append, List.take_of_length_le (by rw [h1, Nat.succ_mul]; omega), List.drop_of_length_le (by rw [h1, Nat.succ_mul]; omega),
      show (i + 1) * sz + o - a.length = i * sz + o by rw [h1, Nat.succ_mul]; omega, show (i + 1) * sz + o + qs.length - a.length = i * sz + o + qs.length by rw [h1, Nat.succ_mul]; omega]
    simp
/-- A store into one of its elements. -/
theorem ef_elstore {t : TypeId} {x y : Operand} {sz j i q m : Nat} {T : TypeId} {rows rows' : List (List Pr)} {row qs : List Pr} {v : Value} (hg : o.guard = none) (ho : o.op = .store t x y) (hx : VL E x (elp sz v i q)) (hy : VL E y (cellsP qs)) (hz : sizeB P t = some m) (hm : qs.length = m)
    (hl : ∀ r ∈ rows, r.length = sz) (hi : rows[i]? = some row) (hq : q + m ≤ sz) (hps : rows.set i (row.take q ++ qs ++ row.drop (q + m)) = rows') : OpEf P M0 w0 S n j (SR.c (oweRes T sz rows v)) (SR.c (oweRes T sz rows' v)) o E any := by
  refine ⟨hg, fun M w a rs hsz he hI hj => ?_⟩
  obtain ⟨a0, m0, c0, hv0, h1⟩ := hx.ev he (show x ∈ o.op.operands.toList by simp [ho, Op.operands])
  obtain ⟨h2, h3⟩ := hy.ev he (show y ∈ o.op.operands.toList by simp [ho, Op.operands])
  have hj' : rs[j]? = some (oweRes T sz rows v) := hj
  have hjl := lt_of_at hj'
  rcases (hI.hold _ (List.mem_of_getElem? hj')).1 with ⟨rfl, A, hv⟩ | ⟨b, cap, spare, hv, hnc, hcm, hsp, hcr⟩
  · simp at hi
  · subst hv
    injection hv0 with e1 e2 e3
    injection e1 with e1
    subst e1
    have hC := hI.swap1 (r' := cellsRes true b T (rows.flatten ++ spare.map is)) hj' rfl rfl hcr
    have hjC : (rs.set j (cellsRes true b T (rows.flatten ++ spare.map is)))[j]? = some (cellsRes true b T (rows.flatten ++ spare.map is)) := List.getElem?_set_self hjl
    obtain ⟨_, cs, h4, h5, h6⟩ := hcr
    have h5l := h5.length
    have h2l := h2.length
    have hil := lt_of_at hi
    have hfl := flat_len hl
    rw [List.length_append, hfl, List.length_map] at h5l
    have hle : (i + 1) * sz ≤ rows.length * sz := Nat.mul_le_mul_right sz hil
    rw [Nat.succ_mul] at hle
    have hcells : (a.eval y).cells.size = m := by rw [← hm, ← h2l]; simp
    have hrun : (storeCells ((⟨b, 0, none⟩ : Addr).add (i * sz + q)) (a.eval y).cells.toList 0).run P w = .ok () (w.setRow b (cs.take (i * sz + q) ++ (a.eval y).cells.toList ++ cs.drop (i * sz + q + m)).toArray) := by
      have := run_storeCells_at (P := P) b (i * sz + q) T (a.eval y).cells.toList 0 cs.toArray w h4 (by simp; omega) h3
      rw [addr_add, Nat.zero_add]
      simpa [hcells] using this
    have hrun2 : (execOp a.eval o).run P w = .ok .skip (w.setRow b (cs.take (i * sz + q) ++ (a.eval y).cells.toList ++ cs.drop (i * sz + q + m)).toArray) := by
      simp [execOp, ho, h1, Instr.storeAt, Instr.sureAddr, storeVar, run_size hz, hcells, hrun]
    rw [hrun2]
    have hfs := set_flat (S := spare.map is) hl hi (o := q) (qs := qs) (by omega)
    rw [hm, hps] at hfs
    obtain ⟨h7, h8⟩ := HpH.write (qs := rows'.flatten ++ spare.map is) (cs := cs.take (i * sz + q) ++ (a.eval y).cells.toList ++ cs.drop (i * sz + q + m)) hC hjC (by rw [← hfs]; exact (((h5.take (i * sz + q)).app h2)).app (h5.drop (i * sz + q + m)))
      (fun c hc => by
        simp only [List.mem_append] at hc
        rcases hc with (hc | hc) | hc
        · exact h6 c (List.mem_of_mem_take hc)
        · exact h3 c hc
        · exact h6 c (List.mem_of_mem_drop hc))
    rw [List.set_set] at h7
    refine ⟨M, trivial, h8, ?_⟩
    have hlen : rows'.length = rows.length := by rw [← hps, List.length_set]
    have h9 := h7.swap1 (r' := oweRes T sz rows' (.slice (some ⟨b, 0, none⟩) rows.length (cap + 1))) (List.getElem?_set_self hjl) rfl rfl (.inr ⟨b, cap, spare, by rw [hlen], by rw [hlen]; exact hnc, hcm, by rw [hlen]; exact hsp, (h7.hold _ (List.mem_of_getElem? (List.getElem?_set_self hjl))).1⟩)
    rw [List.set_set] at h9
    exact h9

theorem HpH.dropL : ∀ {l : List Res} {M : Av} {w : World}, HpH M0 w0 S (l ++ rs) M w → HpH M0 w0 S rs M w
  | [], _, _, h => h
  | _ :: l, _, _, h => HpH.dropL (l := l) h.drop1
end
end Cp
namespace Cp
open Go Go.RowKit Go.Great
section
variable {P : Program} {E : Env} {I : Asn} {o : Oper}
theorem ok_idxbyte {f : FuncId} {fn : Func} {x y : Operand} {ts : Array TypeId} {a : List UInt8} {c : UInt8} (ho : o.op = .call { callee := .value (.func f), args := #[x, y], argTypes := ts }) (hf : P.funcs[f]? = some fn) (hname : (fn.name == "runtime.NumGoroutine") = false)
    (hb : fn.body.isNone = true) (hn : Extern.findNext fn = none) (hex : Extern.find fn = some Extern.BytealgIndexByte.indexByte) (hx : VL E x (str a)) (hy : VL E y (is (.int .u8 ((c.toNat : Nat) : Int)))) : OpOK P I o E (int (Lib.indexByte a c)) :=
  OpOK.same fun M w ac he _ => by
    have h1 : ac.eval x = _ := hx.ev he (by simp [ho, Op.operands, Call.operands])
    have h2 : ac.eval y = _ := hy.ev he (by simp [ho, Op.operands, Call.operands])
    have h3 : ac.eval (.func f) = .func (.func f) #[] #[] := rfl
    refine ⟨_, ?_, rfl⟩
    have hrun : (execOp ac.eval o).run P w = (callFunc f #[ac.eval x, ac.eval y]).run P w := by simp [execOp, ho, resolve, Deferred.ofValue, invoke, h3]
    rw [hrun, h1, h2, run_callFunc_extern hf hname hb hn hex, Lib.run_indexByteString]
    simp
/-- The function called is a value that is known. -/
theorem ok_callf {f : FuncId} {cx : Operand} {xs : Array Operand} {ts : Array TypeId} {ps caps : List Pr} {res : Pr} (ho : o.op = .call { callee := .value cx, args := xs, argTypes := ts }) (hc : VL E cx (fn (.func f) caps)) (hf : Fun P f (ps ++ caps) res) (hv : Vals E xs.toList ps) : OpOK P I o E res := by
  intro M w a he hI
  have h1 := Vals.evalFor (o := o) he (xs := xs.toList) (fun x hx => by simp [ho, Op.operands, Call.operands]; exact .inr (by simpa using hx)) hv
  obtain ⟨cs, h2, h3⟩ := hc.ev he (by simp [ho, Op.operands, Call.operands])
  have hrun : (execOp a.eval o).run P w = .ok (.enter f ((xs.toList.map a.eval).toArray ++ cs.toArray)) w := by
    simp [execOp, ho, resolve, Deferred.ofValue, h2, invoke, run_callFunc hf.1, map_list xs]
  rw [hrun]
  have h4 := hf.2 M w _ (I.bd _ _ hI) (h1.app h3)
  exact ⟨Below.refl _ _, by simpa using h4⟩
section
variable {n : Nat} {M0 : Av} {w0 : World} {S : Nat → Prop}
/-- A literal whose elements are ours. -/
theorem ef_buildM {t e : TypeId} {sz d j : Nat} {zs : List Value} {xs : List Operand} {parts : Array (Nat × Operand)} {rows : List (List Pr)} (hg : o.guard = none) (hd : o.dst = some d) (hn : d < n) (ho : o.op = .buildSlice t xs.length parts) (hp : parts.toList = (xs.zipIdx 0).map fun x => (x.2, x.1))
    (ht : P.underlying t = some (.slice e)) (hz : sizeB P e = some sz) (hze : zeroB P e = some zs) (hzl : zs.length = sz) (hsz : 0 < sz) (hx : ValR E sz xs rows) (hsmall : xs.length * sz ≤ 16777216) (hpos0 : 0 < xs.length) : OpEf P M0 w0 S n j (SR.c noRes) ⟨d, mutRes e sz rows⟩ o E (lens rows.length) := by
  refine ⟨hg, fun M w a rs hszn he hI hj => ?_⟩
  have hops : ∀ x ∈ xs, x ∈ o.op.operands.toList := by
    intro x hx
    simp only [ho, Op.operands, List.mem_map]
    obtain ⟨i, hi, rfl⟩ := List.mem_iff_getElem.1 hx
    exact ⟨(i, xs[i]), by rw [hp]; exact List.mem_map.2 ⟨(xs[i], i), by rw [List.mem_zipIdx_iff_getElem?]; simp [hi], rfl⟩, rfl⟩
  obtain ⟨h1, h2, h3⟩ := hx.ev he hops
  unfold sizeB at hz
  unfold zeroB at hze
  cases hi : P.info? e with
  | none => rw [hi] at hz; cases hz
  | some i =>
    rw [hi] at hz hze
    simp only [Option.map_some, Option.some.injEq, Option.map_eq_some_iff] at hz hze
    obtain ⟨z, hzz, hze⟩ := hze
    have hzc : z.cells.size = sz := by rw [← hzl, ← hze]; simp
    have hparts : (parts.map fun (i, x) => (i, a.eval x)).toList = ((xs.map a.eval).zipIdx 0).map fun x => (x.2, x.1) := by
      rw [Array.toList_map, hp, List.map_map, List.zipIdx_map, List.map_map]
      rfl
    have hfill := fill_whole (s := i.size) (by rw [hz]; exact hsz) (xs.map a.eval) ((Array.range (xs.length * i.size)).map (z.cells[· % z.cells.size]!)) (fun v hv => by
      obtain ⟨x, hx, rfl⟩ := List.mem_map.1 hv
      rw [hz]; exact h2 x hx) (by simp)
    have hpos : ¬ xs.length * i.size = 0 := by rw [hz]; exact Nat.ne_of_gt (Nat.mul_pos (by omega) hsz)
    have hrun := run_buildSlice (P := P) w t e xs.length (parts.map fun (i, x) => (i, a.eval x)) _ i z ht hi hzz (by rw [hz]; omega) hpos (by rw [hparts]; exact hfill)
    have hrun2 : (execOp a.eval o).run P w = .ok (.value (.slice (some ⟨w.heap.size, 0, none⟩) xs.length xs.length)) (w.alloc (.cells ((xs.map a.eval).flatMap fun v => v.cells.toList).toArray e)) := by simp [execOp, ho, hrun]
    rw [hrun2]
    generalize hcs : (xs.map a.eval).flatMap (fun v => v.cells.toList) = cs at h3 ⊢
    have hb : Below w.heap.size w (w.alloc (.cells cs.toArray e)) := (Below.refl _ _).alloc (Nat.le_refl _) _
    have hlen : rows.length ≤ maxLen := by
      have : xs.length * 1 ≤ xs.length * sz := Nat.mul_le_mul_left _ hsz
      unfold maxLen; omega
    have h4 := Ext.below (M := M) hb
    have hext : Ext M w (fun b o => M b o ∨ b = w.heap.size) (w.alloc (.cells cs.toArray e)) := by
      refine ⟨h4.size, fun a v hc hm => ⟨fun hx => ?_, (h4.keep a v hc hm).2⟩, fun b o ho hp hm => ⟨fun hx => ?_, (h4.obj b o ho hp hm).2⟩⟩
      · rcases hx with hx | hx
        · exact hm hx
        · have := cell_lt hc; omega
      · rcases hx with hx | hx
        · exact hm hx
        · subst hx; simp at ho
    have hs1 : (w.alloc (.cells cs.toArray e)).heap.size = w.heap.size + 1 := by simp
    have hat : (SR.at_ (a.put o.dst (.slice (some ⟨w.heap.size, 0, none⟩) xs.length xs.length)) ⟨d, mutRes e sz rows⟩) = mutRes e sz rows (.slice (some ⟨w.heap.size, 0, none⟩) xs.length xs.length) := by unfold SR.at_ Slot.val; dsimp only; rw [hd, put_same (by rw [hszn]; exact hn)]
    refine ⟨fun b o => M b o ∨ b = w.heap.size, ⟨_, _, by rw [h1]⟩, hext, ?_⟩
    rw [hat]
    refine hI.replace hj hext hb.os hb.tape hb.output (fun k hk _ => hb.block k hk) rfl (fun b o hm _ => .inl hm) (fun b o hx => ?_) ?_ rfl (fun b hbk => ?_)
    · rcases hx with hx | hx
      · have := hI.bd _ _ hx; omega
      · omega
    · refine ⟨w.heap.size, rows.length, [], by rw [h1], Nat.le_refl _, hlen, by simp, fun o => .inr rfl, cs, heap_alloc_new w _, ?_, h3.2.1⟩
      simpa using (h3.st hext).hl hsz
    · have hbk' : some w.heap.size = some b := hbk
      injection hbk' with e1
      subst e1
      exact ⟨by rw [hs1]; omega, .inr (Nat.le_refl _)⟩
end
theorem one_any (p : Pr) [One p] : Pr.le p (cellsP [any]) := fun M w v h => by
  obtain ⟨h1, h2⟩ := one_cellsP p M w v h
  refine ⟨?_, h2⟩
  match v.cells.toList, h1 with
  | [_], _ => exact ⟨trivial, trivial⟩
theorem put_any {ps : List Pr} {off : Nat} (h : ps[off]? = some any) : ps.take off ++ [any] ++ ps.drop (off + 1) = ps := by
  have hl := lt_of_at h
  rw [List.getElem?_eq_getElem hl] at h
  simp only [Option.some.injEq] at h
  conv => rhs; rw [← List.take_append_drop off ps, List.drop_eq_getElem_cons hl, h]
  simp
end
/-- All numbers below n. -/
def allI (p : Nat → Bool) (n : Nat) : Bool := (List.range n).all p
theorem allI_iff {p : Nat → Bool} {n : Nat} : allI p n = true ↔ ∀ j, j < n → p j = true := by unfold allI; simp
theorem allI_end {p : Nat → Bool} {n : Nat} (h : ∀ j, j < n → p j = true) : allI p n = true := allI_iff.2 h
theorem allI_hit {p : Nat → Bool} {n k : Nat} (hk : k < n) (h : p k = false) : allI p n = false := by
  rw [Bool.eq_false_iff]; intro h'; rw [allI_iff.1 h' k hk] at h; cases h
theorem allI_step {p : Nat → Bool} {k : Nat} (h : ∀ j, j < k → p j = true) (hk : p k = true) : ∀ j, j < k + 1 → p j = true := by
  intro j hj
  by_cases e : j = k
  · subst e; exact hk
  · exact h j (by omega)
end Cp
namespace Cp
open Go Go.RowKit Go.Great
section
variable {P : Program} {n : Nat} {I : Asn}
def TurnR (P : Program) (I' : Asn) (M : Av) (w : World) (p : Pr) : Result Next → Prop
  | .ok (.value v) w' => ∃ M', p.h M' w' v ∧ Ext M w M' w' ∧ I'.h M' w'
  | .ok .skip w' => ∃ M', p.h M' w' undef ∧ Ext M w M' w' ∧ I'.h M' w'
  | .ok (.enter f args) w' => Calls P f args w' fun e w'' => ∃ v M', e = .returned v ∧ p.h M' w'' v ∧ Ext M w M' w'' ∧ I'.h M' w''
  | _ => False
def OpTurn (P : Program) (n : Nat) (I I' : Asn) (o : Oper) (E : Env) (p : Pr) : Prop := o.guard = none ∧ ∀ M w (a : Act), a.tmps.size = n → EnvFor M w E o a → I.h M w → TurnR P I' M w p ((execOp a.eval o).run P w)
def ChOne (P : Program) (n : Nat) (I : Asn) (ops : Array Oper) : Nat → List Oper → Env → (Asn → Env → Prop) → Prop
  | _, [], _, _ => False
  | 0, o :: r, E, K => ∃ p I', OpTurn P n I I' o E p ∧ (∀ d, o.dst = some d → d < n) ∧ Ch P n I' ops r (upd o p E) (K I')
  | c + 1, o :: r, E, K => ∃ p, GOK P I ops o E p ∧ (∀ d, o.dst = some d → d < n) ∧ ChOne P n I ops c r (upd o p E) K
theorem ChOne.op {ops : Array Oper} {o : Oper} {r : List Oper} {E : Env} {K : Asn → Env → Prop} {d c : Nat} {p : Pr} (hg : o.guard = none) (hd : o.dst = some d) (hn : d < n) (h : OpOK P I o E p)
    (k : ChOne P n I ops c r ((d, p) :: E) K) : ChOne P n I ops (c + 1) (o :: r) E K :=
  ⟨p, by unfold GOK; rw [hg]; exact h, fun d' hd' => by rw [hd] at hd'; cases hd'; exact hn, by unfold upd; rw [hd]; exact k⟩
theorem ChOne.turn {ops : Array Oper} {o : Oper} {r : List Oper} {E : Env} {K : Asn → Env → Prop} {d : Nat} {p : Pr} (I' : Asn) (hd : o.dst = some d) (hn : d < n) (h : OpTurn P n I I' o E p)
    (k : Ch P n I' ops r ((d, p) :: E) (K I')) : ChOne P n I ops 0 (o :: r) E K :=
  ⟨p, I', h, fun d' hd' => by rw [hd] at hd'; cases hd'; exact hn, by unfold upd; rw [hd]; exact k⟩
def FunD (P : Program) (f : FuncId) (args : List Pr) (pre : List Res) (res : Pr) (post : List Res) : Prop := FunL (α := Unit) P f args pre (fun _ => True) (fun _ => res) (fun _ => post)
section
variable {M0 : Av} {w0 : World} {S : Nat → Prop} {rs : List Res} {E : Env} {o : Oper} {g : Func} {M1 : Av} {w1 : World}
theorem FunD.of {f : FuncId} {c : Code} {ps : List Pr} {pre post : List Res} {res : Pr} (hf : P.funcs[f]? = some g) (hb : g.body = some c) (hname : (g.name == "runtime.NumGoroutine") = false) (hlen : ps.length ≤ g.ntmps)
    (h : ∀ M0 w0 S rs M1 w1, Tr P g.ntmps (penv 0 ps) (Hp M0 w0 S (pre ++ extRes M1 w1 :: rs)) c (bodyPost P g (BackL M0 w0 S rs M1 w1 (fun _ : Unit => True) (fun _ => res) (fun _ => post)))) : FunD P f ps pre res post :=
  FunL.of hf hb hname hlen h
/-- One that makes something of its own alone is plain. -/
theorem FunM.pure {f : FuncId} {args : List Pr} {res : Pr} {R' : Value → Res} (h : FunM P f args res noRes R') : Fun P f args res := by
  refine ⟨h.1, fun M w vs hb hv => ?_⟩
  refine (h.2 M w noS [] M w vs ((HpH.begin hb).add0 (r := noRes) rfl trivial) hv).mono ?_
  rintro e w' ⟨v, M', rfl, h2, h3, h4⟩
  exact ⟨v, rfl, res.st _ _ _ _ _ (Ext.less h4.m) h2, h4.below⟩
theorem rd_lenW {t e T : TypeId} {x : Operand} {sz j : Nat} {rows : List (List Pr)} {v : Value} (ho : o.op = .call { callee := .builtin .len, args := #[x], argTypes := #[t] }) (ht : P.underlying t = some (.slice e)) (hx : VL E x (is v)) :
    OpRd P M0 w0 S j (SR.c (oweRes T sz rows v)) o E (int ((rows.length : Nat) : Int)) := by
  intro M w a rs he hI hj
  have h1 : a.eval x = v := hx.ev he (by simp [ho, Op.operands, Call.operands])
  have hj' : rs[j]? = some (oweRes T sz rows v) := hj
  have hrun : ∃ A c, v = .slice A rows.length c := by
    rcases (hI.hold _ (List.mem_of_getElem? hj')).1 with ⟨rfl, A, hv⟩ | ⟨b, cap, spare, hv, _⟩
    · exact ⟨_, _, hv⟩
    · exact ⟨_, _, hv⟩
  obtain ⟨A, c, hv⟩ := hrun
  have : (execOp a.eval o).run P w = .ok (.value (.int .i64 ((rows.length : Nat) : Int))) w := by
    simp [execOp, ho, resolve, invoke, builtin, Builtin.len_, h1, hv, run_underlying ht, goInt]
  rw [this]
  exact ⟨rfl, Below.refl _ _⟩
end
end
end Cp
namespace Cp
open Go Go.RowKit Go.Great
section
variable {P : Program} {n : Nat} {E : Env} {M0 : Av} {w0 : World} {S : Nat → Prop} {rs : List Res} {o : Oper}
/-- The last m elements of a block, from the place off on. -/
def tailP (b off m : Nat) : Pr where
  h _ _ u := ∃ o c, u = .slice (some ⟨b, o, none⟩) m c ∧ (0 < m → o = off)
  st _M _w _M' _w' _v _ h := h
instance one_tailP (b off m : Nat) : One (tailP b off m) := ⟨by rintro M w u ⟨o, c, rfl, _⟩; exact ⟨rfl, rfl⟩⟩
theorem ok_appEE {I : Asn} {t e : TypeId} {x y : Operand} {sz sz1 sz2 : Nat} (ho : o.op = .call { callee := .builtin .append, args := #[x, y], argTypes := #[t, t] }) (ht : P.underlying t = some (.slice e)) (hz : sizeB P e = some sz) (hx : VL E x (full sz1 [])) (hy : VL E y (slice sz2 [])) : OpOK P I o E (full sz []) :=
  OpOK.same fun M w a he _ => by
    obtain ⟨_, A, h1⟩ := hx.ev he (by simp [ho, Op.operands, Call.operands])
    obtain ⟨A', c', h2, _⟩ := hy.ev he (by simp [ho, Op.operands, Call.operands])
    simp only [List.length_nil] at h1 h2
    refine ⟨.slice A 0 0, ?_, void_full sz A M w⟩
    have hrun := run_append_zero (P := P) (ty := o.type) (A := A) (A' := A') (n := 0) (c := 0) (c' := c') ht hz (Nat.le_refl _) w
    simp [execOp, ho, resolve, invoke, builtin, h1, h2, hrun]
end
section
variable {P : Program} {n : Nat} {E : Env} {M0 : Av} {w0 : World} {S : Nat → Prop} {rs : List Res} {o : Oper}
end
section
variable {P : Program} {n : Nat} {E : Env} {M0 : Av} {w0 : World} {S : Nat → Prop} {rs : List Res}
/-- A slice of ours that a cell of ours holds is turned no more. -/
theorem St.frzWC {i j k sz b : Nat} {new : Bool} {T e : TypeId} {ps : List Pr} {rows : List (List Pr)} {v : Value} {p : Pr} (hi : rs[i]? = some (cellsRes new b T ps)) (hj : rs[j]? = some (oweRes e sz rows v)) (hij : j ≠ i) (hk : ps[k]? = some p) (hp : Pr.le p (is v)) (hl : ∀ r ∈ rows, r.length = sz) {a : Act} {w : World} (h : St n E (Hp M0 w0 S rs) a w) :
    St n E (Hp M0 w0 S ((rs.set j noRes).set i (cellsRes new b T (ps.set k (slice sz rows))))) a w := by
  obtain ⟨M, h1, h2, h3, h4⟩ := h
  have h4 : HpH M0 w0 S rs M w := h4
  have hi' : (rs.set j (oweRes e sz rows v))[i]? = some (cellsRes new b T ps) := by rw [List.getElem?_set_ne hij]; exact hi
  obtain ⟨M', g1, g2, g3⟩ := h4.frzW hj hl
  have gi : (rs.set j noRes)[i]? = some (cellsRes new b T ps) := by rw [List.getElem?_set_ne hij]; exact hi
  refine ⟨M', h1, h2, fun s q hq => q.st _ _ _ _ _ g1 (h3 s q hq), g2.swap1 gi rfl rfl ?_⟩
  obtain ⟨c1, cs, c2, c3, c4⟩ := (g2.hold _ (List.mem_of_getElem? gi)).1
  exact ⟨c1, cs, c2, c3.set hk (fun u hu => by rw [show u = v from hp _ _ _ hu]; exact g3), c4⟩
theorem Tr.frzWC {Q : Exit → Act → World → Prop} {c : Code} (i j k : Nat) {sz b : Nat} {new : Bool} {T e : TypeId} {ps : List Pr} {rows : List (List Pr)} {v : Value} {p : Pr} (hi : rs[i]? = some (cellsRes new b T ps)) (hj : rs[j]? = some (oweRes e sz rows v)) (hij : j ≠ i) (hk : ps[k]? = some p) (hp : Pr.le p (is v)) (hl : ∀ r ∈ rows, r.length = sz)
    (kk : Tr P n E (Hp M0 w0 S ((rs.set j noRes).set i (cellsRes new b T (ps.set k (slice sz rows))))) c Q) : Tr P n E (Hp M0 w0 S rs) c Q := Tr.conv (fun _ _ hs => hs.frzWC hi hj hij hk hp hl) kk
end
theorem row_set {β : Type} {f : β → List Pr} {l : List β} {k q m : Nat} {x : β} {qs : List Pr} (h : l[k]? = some x) (hq : (f x).take q ++ qs ++ (f x).drop (q + m) = f x) : (l.map f).set k ((f x).take q ++ qs ++ (f x).drop (q + m)) = l.map f := by
  rw [hq]
  refine List.ext_getElem? fun i => ?_
  rw [List.getElem?_set]
  by_cases hi : k = i
  · subst hi
    rw [if_pos rfl, List.getElem?_map, h]
    have := lt_of_at h
    rw [if_pos (by rw [List.length_map]; exact this)]; rfl
  · rw [if_neg hi]
theorem row_setI {β : Type} {f : β → List Pr} {l : List β} {k q m : Nat} {x : β} {qs : List Pr} (h : l[k]? = some x) (hq : (f x).take q ++ qs ++ (f x).drop (q + m) = f x) : (l.map f).set ((k : Nat) : Int).toNat ((f x).take q ++ qs ++ (f x).drop (q + m)) = l.map f := by
  rw [Int.toNat_natCast]; exact row_set h hq
end Cp
namespace Cp
open Go Go.RowKit Go.Great
section
variable {P : Program} {n : Nat} {E : Env} {M0 : Av} {w0 : World} {S : Nat → Prop} {rs : List Res} {o : Oper} {g : Func} {M1 : Av} {w1 : World}
theorem Row.hd {M : Av} {w : World} {ad : Addr} {p q : Pr} {ps : List Pr} (h : Row M w ad 0 (p :: ps)) (hq : ∀ u, p.h M w u → q.h M w u) : Row M w ad 0 (q :: ps) := by
  intro j r hr
  cases j with
  | zero =>
    simp at hr; subst hr
    obtain ⟨u, h1, h2, h3, h4⟩ := h 0 p rfl
    exact ⟨u, h1, h2, h3, hq u h4⟩
  | succ j => exact h (j + 1) r (by simpa using hr)
theorem TO.re {Q : Exit → Act → World → Prop} {ops : Array Oper} {l : List Oper} {I : Asn} (s : Nat) {q : Pr} (p : Pr) (hs : E.lookup s = some q) (hl : Pr.le q p) (k : TO P n ops l ((s, p) :: E) I Q) : TO P n ops l E I Q := by
  intro m hm a w hst
  refine k m hm a w ?_
  obtain ⟨M, h1, h2, he, h4⟩ := hst
  refine ⟨M, h1, h2, fun s' r hr => ?_, h4⟩
  simp only [List.lookup] at hr
  split at hr
  · rename_i e1
    have : s' = s := by simpa using e1
    subst this
    simp only [Option.some.injEq] at hr
    subst hr
    exact hl _ _ _ (he _ _ hs)
  · exact he _ _ hr
theorem Fin.swap01 {Q : Exit → Act → World → Prop} {x : Exit} {r r' : Res} (k : Fin n E (Hp M0 w0 S (r' :: r :: rs)) Q x) : Fin n E (Hp M0 w0 S (r :: r' :: rs)) Q x :=
  Fin.conv (fun _ _ ⟨M, h1, h2, h3, h4⟩ => ⟨M, h1, h2, h3, HpH.perm (List.Perm.swap _ _ _) h4⟩) k
/-- A function that makes a thing of ours, and what it hands back. -/
def FunV (P : Program) (f : FuncId) (args : List Pr) (res : Value → Pr) (post : Value → List Res) : Prop := FunL (α := Value) P f args [] (fun _ => True) res post
theorem FunV.of {f : FuncId} {c : Code} {ps : List Pr} {res : Value → Pr} {post : Value → List Res} (hf : P.funcs[f]? = some g) (hb : g.body = some c) (hname : (g.name == "runtime.NumGoroutine") = false) (hlen : ps.length ≤ g.ntmps)
    (h : ∀ M0 w0 S rs M1 w1, Tr P g.ntmps (penv 0 ps) (Hp M0 w0 S (extRes M1 w1 :: rs)) c (bodyPost P g (BackL M0 w0 S rs M1 w1 (fun _ : Value => True) res post))) : FunV P f ps res post :=
  FunL.of hf hb hname hlen h
theorem Fin.retV {rv : ResultVar} {q : Pr} {res : Value → Pr} {post : Value → List Res} {rs' : List Res} (v : Value) (dr : List Res) (hr : g.results = #[rv]) (h : RVal P E rs' rv q) (hl : Pr.le q (res v)) (hp : rs'.Perm (dr ++ (post v ++ extRes M1 w1 :: rs))) :
    Fin n E (Hp M0 w0 S rs') (bodyPost P g (BackL M0 w0 S rs M1 w1 (fun _ : Value => True) res post)) .ret := by
  rintro a w ⟨M, _, hd, he, hi⟩
  have hi : HpH M0 w0 S rs' M w := hi
  obtain ⟨u, hu, hp'⟩ := h M w a he (fun q hq => (hi.hold q hq).1)
  obtain ⟨h1, h2⟩ := outL (HpH.dropL (HpH.perm hp hi))
  exact ⟨hd, u, results1 hr hu, _, M, v, rfl, trivial, hl _ _ _ hp', h1, h2⟩
theorem TO.callV {Q : Exit → Act → World → Prop} {ops : Array Oper} {r : List Oper} {f : FuncId} {xs : Array Operand} {ts : Array TypeId} {ps : List Pr} {res : Value → Pr} {post : Value → List Res} {d : Nat} (hg : o.guard = none) (hd : o.dst = some d) (hn : d < n) (ho : o.op = .call { callee := .value (.func f), args := xs, argTypes := ts }) (hf : FunV P f ps res post)
    (hv : Vals E xs.toList ps) (k : ∀ v, TO P n ops r ((d, res v) :: E) (Hp M0 w0 S (post v ++ rs)) Q) : TO P n ops (o :: r) E (Hp M0 w0 S rs) Q :=
  TO.callL rs hg hd hn ho hf hv (List.Perm.refl _) fun v _ => k v
end
end Cp
namespace Cp
open Go Go.RowKit Go.Great
section
variable {P : Program} {n : Nat} {E : Env} {I : Asn} {Q : Exit → Act → World → Prop} {ops : Array Oper} {o : Oper} {r : List Oper} {g j : Nat} {b want : Bool}
theorem TO.cases (g : Nat) {b : Bool} {l : List Oper} (_hb : E.lookup g = some (bool b)) (ht : b = true → TO P n ops l E I Q) (hf : b = false → TO P n ops l E I Q) : TO P n ops l E I Q := by
  cases b
  · exact hf rfl
  · exact ht rfl
theorem TO.effG (hg : o.guard = some (j, want)) (hj : (ops[j]?).bind (·.dst) = some g) (hb : E.lookup g = some (bool b)) (hbw : b = want) (h : ∀ (K : Act → World → Prop) M w (a : Act), a.tmps.size = n → a.defers = [] → EnvOK M w E a → I.h M w →
    (∀ E' I' a' w', TO P n ops r E' I' Q → St n E' I' a' w' → K a' w') → o.wp P a w K Q) : TO P n ops (o :: r) E I Q := by
  intro k hl a w hs
  have h0 : ops[k]? = some o := by simpa using (hl 0).symm
  obtain ⟨M, hn, hd, he, hI⟩ := hs
  simp only [List.length_cons, List.range'_succ, wpOps, h0]
  have hy := yielded_ob (M := M) (w := w) (b := some b) hj (he g _ hb)
  rw [wanted_some hg hy, if_pos (by simp [hbw])]
  exact .inl (h _ M w a hn hd he hI fun E' I' a' w' hT hst => hT (k + 1) (fun j => by have := hl (j + 1); simpa [Nat.add_assoc, Nat.add_comm 1 j] using this) a' w' hst)
theorem TO.opG {d : Nat} {p : Pr} (hg : o.guard = some (j, want)) (hj : (ops[j]?).bind (·.dst) = some g) (hb : E.lookup g = some (bool b)) (hbw : b = want) (hd : o.dst = some d) (hn : d < n) (h : OpOK P I o E p) (k : TO P n ops r ((d, p) :: E) I Q) : TO P n ops (o :: r) E I Q :=
  TO.effG hg hj hb hbw fun K M w a h1 h2 h3 h4 hK => by
    refine gives_upon (h M w a (looks_env h3) h4) fun v w' hv hb' => hK _ _ _ _ k ⟨M, ?_, ?_, ?_, I.st _ _ _ hb' h4⟩
    · rw [put_size]; exact h1
    · rw [put_defers]; exact h2
    · have := h3.put (o := o) (p := p) hb' hv (fun d' hd' => by rw [hd] at hd'; cases hd'; rw [h1]; exact hn)
      rw [show upd o p E = (d, p) :: E by unfold upd; rw [hd]] at this; exact this
theorem TO.noG {d : Nat} (hg : o.guard = some (j, want)) (hj : (ops[j]?).bind (·.dst) = some g) (hb : E.lookup g = some (bool b)) (hbw : b ≠ want) (hd : o.dst = some d) (hn : d < n) (kk : TO P n ops r ((d, is undef) :: E) I Q) : TO P n ops (o :: r) E I Q := by
  intro k hl a w hs
  have h0 : ops[k]? = some o := by simpa using (hl 0).symm
  obtain ⟨M, h1, h2, he, hI⟩ := hs
  simp only [List.length_cons, List.range'_succ, wpOps, h0]
  have hy := yielded_ob (M := M) (w := w) (b := some b) hj (he g _ hb)
  rw [wanted_some hg hy, if_neg (by simp [hbw])]
  refine kk (k + 1) (fun j => by have := hl (j + 1); simpa [Nat.add_assoc, Nat.add_comm 1 j] using this) _ w ⟨M, by rw [put_size]; exact h1, by rw [put_defers]; exact h2, ?_, hI⟩
  have := he.put (o := o) (p := is undef) (v := undef) (Below.refl w.heap.size w) rfl (fun d' hd' => by rw [hd] at hd'; cases hd'; rw [h1]; exact hn)
  rw [show upd o (is undef) E = (d, is undef) :: E by unfold upd; rw [hd]] at this; exact this
variable {M0 : Av} {w0 : World} {S : Nat → Prop} {rs : List Res}
theorem TO.efcG {d : Nat} {p : Pr} (i : Nat) {R : Res} {R' : Res} (hg : o.guard = some (j, want)) (hj : (ops[j]?).bind (·.dst) = some g) (hb : E.lookup g = some (bool b)) (hbw : b = want) (hR : rs[i]? = some R) (hd : o.dst = some d) (hn : d < n) (h : OpEf P M0 w0 S n i (SR.c R) (SR.c R') { o with guard := none } E p)
    (k : TO P n ops r ((d, p) :: E) (Hp M0 w0 S (rs.set i R')) Q) : TO P n ops (o :: r) E (Hp M0 w0 S rs) Q :=
  TO.effG hg hj hb hbw fun K M w a hsz hdf he hI hK => by
    have hw : ({ o with guard := none } : Oper).wp P a w K Q := step_ef (h.2 M w a rs hsz (looks_env he) hI hR) fun v w' M' hv hx hI' => hK _ _ _ _ k ⟨M', by rw [put_size]; exact hsz, by rw [put_defers]; exact hdf, by
      intro s q hq
      simp only [List.lookup] at hq
      by_cases hs : s = d
      · subst hs; simp at hq; subst hq; show p.h M' w' ((a.put o.dst v).tmps.getD s undef); rw [hd, put_same (by rw [hsz]; exact hn)]; exact hv
      · rw [show (s == d) = false by simpa using hs] at hq; show q.h M' w' ((a.put o.dst v).tmps.getD s undef); rw [hd, put_other hs]; exact q.st _ _ _ _ _ hx (he s q hq), hI'⟩
    exact hw
end
end Cp
namespace Cp
open Go Go.RowKit Go.Great
section
variable {P : Program} {E : Env} {I : Asn} {o : Oper}
def fieldB (P : Program) (s : TypeId) (f : Nat) : Option (Nat × TypeId) :=
  match P.underlying s with
  | some (.struct fs) => (fs[f]?).map fun fd => (fd.offset, fd.type)
  | _ => none
theorem fieldB_at {s : TypeId} {f k : Nat} {t : TypeId} (h : fieldB P s f = some (k, t)) : ∃ fs fd, P.underlying s = some (.struct fs) ∧ fs[f]? = some fd ∧ fd.offset = k ∧ fd.type = t := by
  unfold fieldB at h
  cases hu : P.underlying s with
  | none => rw [hu] at h; cases h
  | some d =>
    rw [hu] at h
    cases d with
    | struct fs =>
      simp only at h
      cases hf : fs[f]? with
      | none => rw [hf] at h; cases h
      | some fd =>
        rw [hf] at h
        simp only [Option.map_some, Option.some.injEq, Prod.mk.injEq] at h
        exact ⟨fs, fd, rfl, hf, h.1, h.2⟩
    | _ => cases h
theorem ok_fieldG {s t : TypeId} {x : Operand} {f k sz : Nat} {ps qs : List Pr} (ho : o.op = .field s x f) (hf : fieldB P s f = some (k, t)) (he : aggB P t = true) (hz : sizeB P t = some sz) (hx : VL E x (agg ps)) (hq : (ps.drop k).take sz = qs) : OpOK P I o E (agg qs) :=
  OpOK.same fun M w ac hev _ => by
    obtain ⟨cs, h1, ho1, h2⟩ := hx.ev hev (by simp [ho, Op.operands])
    obtain ⟨fs, fd, hu, hfd, rfl, rfl⟩ := fieldB_at hf
    refine ⟨.agg (cs.toArray.extract fd.offset (fd.offset + sz)), ?_, (cs.drop fd.offset).take sz, ?_, fun c hc => ho1 c (List.mem_of_mem_drop (List.mem_of_mem_take hc)), by rw [← hq]; exact (h2.drop _).take _⟩
    · simp [execOp, ho, h1, Instr.field, asAgg, run_underlying hu, hfd, run_size hz, Go.part, run_isAgg_agg he]
    · congr 1
      apply Array.toList_inj.1
      simp [List.extract, Nat.add_sub_cancel_left]
end
end Cp
namespace Cp
open Go Go.RowKit Go.Great
/-- What is known of a type, found by its number. -/
class T1 (P : Program) (t : TypeId) : Prop where
  h : oneB P t = true
class TA (P : Program) (t : TypeId) : Prop where
  h : aggB P t = true
class TZ (P : Program) (t : TypeId) (m : outParam Nat) : Prop where
  h : sizeB P t = some m
class TF (P : Program) (s f : Nat) (k : outParam Nat) : Prop where
  h : fieldOff P s f = some k
class TU (P : Program) (t : TypeId) (d : outParam TypeDesc) : Prop where
  h : P.underlying t = some d
class TB (P : Program) (t : TypeId) (place : outParam (Nat → Option (Nat × Nat))) (zs : outParam (List Value)) : Prop where
  h : ∀ ps, P.built t ps = Instr.fill place zs.toArray ps
  z : zs.all (·.oneCell') = true
class TV (P : Program) (t : TypeId) (zs : outParam (List Value)) : Prop where
  h : zeroB P t = some zs
  z : zs.all (·.oneCell') = true
class TM (P : Program) : Prop where
  h : P.follows .mixedOrders = true
section
variable {P : Program} {n : Nat} {I : Asn} {ops : Array Oper} {o : Oper} {r : List Oper} {E : Env} {K : Env → Prop} {d g j : Nat} {b want : Bool} {p : Pr} {x y : Operand} {Q : Exit → Act → World → Prop} {t u : TypeId}
theorem a_l1 [i : T1 P t] {ps : List Pr} (ho : o.op = .load t x) (hx : Val E x = some (ref (p :: ps))) : OpOK P I o E p := ok_load1 ho i.h (vl hx)
theorem a_lA [i : TA P t] {m : Nat} [z : TZ P t m] {ps qs : List Pr} (ho : o.op = .load t x) (hx : Val E x = some (ref ps)) (hq : ps.take m = qs) (hm : qs.length = m) : OpOK P I o E (agg qs) := ok_loadA ho i.h z.h (vl hx) hq hm
theorem a_fa {s : TypeId} {f k : Nat} [i : TF P s f k] {ps qs : List Pr} (ho : o.op = .fieldAddr s x f) (hx : Val E x = some (ref ps)) (hq : ps.drop k = qs) : OpOK P I o E (ref qs) := ok_fieldAddr ho i.h (vl hx) hq
theorem a_fp {s : TypeId} {f k : Nat} [i : TF P s f k] {b off : Nat} (ho : o.op = .fieldAddr s x f) (hx : Val E x = some (ptr b off)) : OpOK P I o E (ptr b (off + k)) := okp_fieldAddr ho i.h (vl hx)
theorem a_lm {e : TypeId} [i : TU P t (.slice e)] {sz : Nat} {β : Type} {f : β → List Pr} {l : List β} (ho : o.op = .call { callee := .builtin .len, args := #[x], argTypes := #[t] }) (hx : Val E x = some (slice sz (l.map f))) : OpOK P I o E (int ((l.length : Nat) : Int)) := ok_lenm ho i.h (vl hx)
theorem a_ls [i : TU P t .string] {a : List UInt8} (ho : o.op = .call { callee := .builtin .len, args := #[x], argTypes := #[t] }) (hx : Val E x = some (str a)) : OpOK P I o E (int ((a.length : Nat) : Int)) := ok_lens ho i.h (vl hx)
theorem a_eb [i : TU P t .bool] {b c : Bool} (ho : o.op = .binOp .eql t x y u) (hx : Val E x = some (bool b)) (hy : Val E y = some (bool c)) : OpOK P I o E (bool (b == c)) := ok_eqb ho i.h (vl hx) (vl hy)
theorem a_b1 {p : Pr} [One p] (ho : o.op = .box t x) (hx : Val E x = some p) : OpOK P I o E (ref [p]) := ok_box ho (VL.le (vl hx) (one_cellsP p))
theorem a_bA {ps : List Pr} (ho : o.op = .box t x) (hx : Val E x = some (agg ps)) : OpOK P I o E (ref ps) := ok_box ho (VL.le (vl hx) (agg_cellsP ps))
/-- What lies in the cells of a value that reads so. -/
class CP (p : Pr) (ps : outParam (List Pr)) : Prop where
  h : Pr.le p (cellsP ps)
instance cp_agg (ps : List Pr) : CP (agg ps) ps := ⟨agg_cellsP ps⟩
instance (priority := low) cp_one (p : Pr) [One p] : CP p [p] := ⟨one_cellsP p⟩
class CQ (p : Pr) (ps : outParam (List Pr)) : Prop where
  h : Pr.le p (cellsP ps)
instance cq_agg (ps : List Pr) : CQ (agg ps) ps := ⟨agg_cellsP ps⟩
instance cq_int (k : IntKind) (n : Int) : CQ (is (.int k n)) [is (.int k n)] := ⟨one_cellsP _⟩
instance cq_bool (b : Bool) : CQ (is (.bool b)) [is (.bool b)] := ⟨one_cellsP _⟩
instance cq_str (s : ByteArray) : CQ (is (.string s)) [is (.string s)] := ⟨one_cellsP _⟩
instance cq_ptr (a : Option Addr) : CQ (is (.pointer a)) [is (.pointer a)] := ⟨one_cellsP _⟩
instance cq_slice (sz : Nat) (rows : List (List Pr)) : CQ (slice sz rows) [slice sz rows] := ⟨one_cellsP _⟩
instance cq_ref (ps : List Pr) : CQ (ref ps) [ref ps] := ⟨one_cellsP _⟩
instance cq_fn (f : Fn) (ps : List Pr) : CQ (fn f ps) [fn f ps] := ⟨one_cellsP _⟩
theorem vf0 : ValF E [] [] := trivial
theorem vf1 {i : Nat} {q : Pr} {row : List Pr} [c : CQ q row] {xs : List (Nat × Operand)} {rows : List (Nat × List Pr)} (hx : Val E x = some q) (h : ValF E xs rows) : ValF E ((i, x) :: xs) ((i, row) :: rows) := ⟨⟨rfl, VL.le (vl hx) c.h⟩, h⟩
theorem vr0 {sz : Nat} : ValR E sz [] [] := trivial
theorem vr1 {sz : Nat} {q : Pr} {row : List Pr} [c : CQ q row] {xs : List Operand} {rows : List (List Pr)} (hx : Val E x = some q) (hl : row.length = sz) (h : ValR E sz xs rows) : ValR E sz (x :: xs) (row :: rows) := ⟨⟨hl, VL.le (vl hx) c.h⟩, h⟩
theorem a_bd {parts : Array (Nat × Operand)} {place : Nat → Option (Nat × Nat)} {zs : List Value} [i : TB P t place zs] {rows : List (Nat × List Pr)} {qs : List Pr} (ho : o.op = .build t parts) (hx : ValF E parts.toList rows) (hq : fillP place (zs.map is) rows = some qs) : OpOK P I o E (agg qs) := ok_build ho i.h i.z hx hq
theorem a_bs {e : TypeId} {sz m : Nat} {zs : List Value} {xs : List Operand} {parts : Array (Nat × Operand)} {rows : List (List Pr)} [i : TU P t (.slice e)] [z : TZ P e sz] [v : TV P e zs] (ho : o.op = .buildSlice t m parts) (hp : parts.toList.map Prod.snd = xs) (hm : (m == xs.length && (parts.toList.map Prod.fst == List.range m) && zs.length == sz && Nat.blt 0 sz && Nat.ble (m * sz) 16777216) = true) (hx : ValR E sz xs rows) : OpOK P I o E (full sz rows) := by
  simp only [Bool.and_eq_true, beq_iff_eq, Nat.blt_eq, Nat.ble_eq] at hm
  obtain ⟨⟨⟨⟨h1, h2⟩, h3⟩, h4⟩, h5⟩ := hm
  subst h1
  refine ok_buildSlice ho ?_ i.h z.h v.h h3 h4 hx h5
  refine List.ext_getElem (by rw [← hp]; simp) fun k h6 h7 => ?_
  have h8 : k < xs.length := by simpa using h7
  simp only [List.getElem_map, List.getElem_zipIdx, Nat.zero_add]
  have e1 : (parts.toList.map Prod.fst)[k]'(by simpa using h6) = k := by simp only [h2]; exact List.getElem_range _
  have e2 : (parts.toList.map Prod.snd)[k]'(by simpa using h6) = xs[k] := by simp only [hp]
  simp only [List.getElem_map] at e1 e2
  exact Prod.ext e1 e2
section
variable {M0 : Av} {w0 : World} {S : Nat → Prop} {b off : Nat} {T : TypeId} {new : Bool} {ps qs : List Pr} {m : Nat} {q : Pr}
theorem a_r1 [i : T1 P t] (ho : o.op = .load t x) (hx : Val E x = some (ptr b off)) (hp : ps[off]? = some p) : OpRd P M0 w0 S j (SR.c (cellsRes new b T ps)) o E p := rd_load1 ho i.h (vl hx) hp
theorem a_rA [i : TA P t] [z : TZ P t m] (ho : o.op = .load t x) (hx : Val E x = some (ptr b off)) (hq : (ps.drop off).take m = qs) (hm : qs.length = m) : OpRd P M0 w0 S j (SR.c (cellsRes new b T ps)) o E (agg qs) := rd_loadA ho i.h z.h (vl hx) hq hm
theorem a_st {ps' : List Pr} [z : TZ P t m] [c : CP q qs] (hg : o.guard = none) (ho : o.op = .store t x y) (hx : Val E x = some (ptr b off)) (hy : Val E y = some q) (hm : qs.length = m := by rfl) (hl : Nat.ble (off + m) ps.length = true := by rfl) (hps : ps.take off ++ qs ++ ps.drop (off + m) = ps' := by rfl) : OpEf P M0 w0 S n j (SR.c (cellsRes new b T ps)) (SR.c (cellsRes new b T ps')) o E any := ef_store hg ho (vl hx) (VL.le (vl hy) c.h) z.h hm (Nat.le_of_ble_eq_true hl) hps
variable {rs : List Res}
/-- A store that is the last one: no one turns it. -/
theorem sf (i s : Nat) [z : TZ P t m] [c : CP q qs] (hg : o.guard = none ∧ o.dst = none ∧ o.op = .store t x y) (hx : Val E x = some (ptr b 0)) (hy : Val E y = some q) (hi : rs[i]? = some (cellsRes true b T ps)) (hs : E.lookup s = some (ptr b 0))
    (k : TO P n ops r ((s, ref qs) :: E) (Hp M0 w0 S ((rs.set i (cellsRes true b T qs)).eraseIdx i)) Q) (hm : qs.length = m := by rfl) (hl : ps.length = m := by rfl) : TO P n ops (o :: r) E (Hp M0 w0 S rs) Q :=
  TO.store_all i hg.1 hg.2.1 hg.2.2 (vl hx) (VL.le (vl hy) c.h) hi z.h hm hl (TO.freeze (ps := qs) i s (by
    have hlt : i < rs.length := by rcases Nat.lt_or_ge i rs.length with h | h; exact h; rw [List.getElem?_eq_none h] at hi; cases hi
    rw [List.getElem?_set_self hlt]) hs k)
theorem sa (i : Nat) [z : TZ P t m] [c : CP q qs] (hg : o.guard = none ∧ o.dst = none ∧ o.op = .store t x y) (hx : Val E x = some (ptr b 0)) (hy : Val E y = some q) (hi : rs[i]? = some (cellsRes new b T ps))
    (k : TO P n ops r E (Hp M0 w0 S (rs.set i (cellsRes new b T qs))) Q) (hm : qs.length = m := by rfl) (hl : ps.length = m := by rfl) : TO P n ops (o :: r) E (Hp M0 w0 S rs) Q := TO.store_all i hg.1 hg.2.1 hg.2.2 (vl hx) (VL.le (vl hy) c.h) hi z.h hm hl k
end
/-- Which kind of operation it is. -/
def opk (o : Oper) : Nat := match o.op with
  | .move .. => 1
  | .assign .. => 1
  | .fieldAddr .. => 2
  | .load .. => 3
  | .binOp .add .. => 7
  | .binOp .sub .. => 8
  | .binOp .. => 4
  | .pick .. => 5
  | .nilCheck .. => 6
  | .call { callee := .builtin .len, .. } => 9
  | .unOp .. => 10
  | .box .. => 11
  | .extract .. => 12
  | .makeFunc .. => 13
  | .build .. => 14
  | .buildSlice .. => 15
  | .store .. => 16
  | _ => 0
/-- Plain: no guard. -/
def isPl (o : Oper) : Bool := o.guard.isNone
def grp (o : Oper) : Nat := if opk o = 0 then 0 else if opk o < 5 then 1 else if opk o < 9 then 2 else if opk o < 16 then 3 else 4
theorem a_ad {m z : Int} (ho : o.op = .binOp .add t x y u) (hx : Val E x = some (int m)) (hy : Val E y = some (int z)) (hr : -9223372036854775808 ≤ m + z ∧ m + z ≤ 9223372036854775807) : OpOK P I o E (int (m + z)) := ok_add ho (vl hx) (vl hy) hr
theorem a_su {m z : Int} (ho : o.op = .binOp .sub t x y u) (hx : Val E x = some (int m)) (hy : Val E y = some (int z)) (hr : -9223372036854775808 ≤ m - z ∧ m - z ≤ 9223372036854775807) : OpOK P I o E (int (m - z)) := ok_sub ho (vl hx) (vl hy) hr
theorem oF (h : OpOK P I o E p := by first | exact a_fa rfl rfl rfl | exact a_fp rfl rfl) : OpOK P I o E p := h
theorem oL (h : OpOK P I o E p := by first | exact a_l1 rfl rfl | exact a_lA rfl rfl rfl rfl | exact ok_rd 0 rfl (a_r1 rfl rfl rfl) | exact ok_rd 0 rfl (a_rA rfl rfl rfl rfl) | exact ok_rd 1 rfl (a_r1 rfl rfl rfl) | exact ok_rd 1 rfl (a_rA rfl rfl rfl rfl) | exact ok_rd 2 rfl (a_r1 rfl rfl rfl) | exact ok_rd 2 rfl (a_rA rfl rfl rfl rfl) | exact ok_rd 3 rfl (a_r1 rfl rfl rfl) | exact ok_rd 3 rfl (a_rA rfl rfl rfl rfl) | exact ok_rd 4 rfl (a_r1 rfl rfl rfl) | exact ok_rd 4 rfl (a_rA rfl rfl rfl rfl)) : OpOK P I o E p := h
theorem oB (h : OpOK P I o E p := by first | exact ki rfl rfl rfl rfl | exact ok_eqs rfl (vl rfl) (vl rfl) | exact ok_nes rfl (vl rfl) (vl rfl) | exact a_eb rfl rfl rfl) : OpOK P I o E p := h
theorem oP (h : OpOK P I o E p := by first | exact kpt rfl rfl (by first | rfl | assumption) rfl | exact kpf rfl rfl (by first | rfl | assumption) rfl | exact ok_pickOr rfl (vl rfl) (vl rfl) | exact ok_pickAnd rfl (vl rfl) (vl rfl)) : OpOK P I o E p := h
theorem oN (h : OpOK P I o E p := by first | exact okp_nilCheck rfl (vl rfl) | exact ok_nilCheck_ref rfl (vl rfl) | exact ok_nilCheck_fn rfl (vl rfl)) : OpOK P I o E p := h
theorem oA (h : OpOK P I o E p := by first | exact a_ad rfl rfl rfl (by omega) | exact ki rfl rfl rfl rfl) : OpOK P I o E p := h
theorem oS (h : OpOK P I o E p := by first | exact a_su rfl rfl rfl (by omega) | exact ki rfl rfl rfl rfl) : OpOK P I o E p := h
theorem oC (h : OpOK P I o E p := by first | exact a_lm rfl rfl | exact a_ls rfl rfl) : OpOK P I o E p := h
theorem oU (h : OpOK P I o E p := by first | exact ok_not rfl (vl rfl)) : OpOK P I o E p := h
theorem oO (h : OpOK P I o E p := by first | exact a_bA rfl rfl | exact a_b1 rfl rfl) : OpOK P I o E p := h
theorem oE (h : OpOK P I o E p := by first | exact ok_extract rfl (vl rfl) rfl) : OpOK P I o E p := h
theorem oM (h : OpOK P I o E p := by first | exact ok_makeFunc rfl rfl) : OpOK P I o E p := h
theorem oD (h : OpOK P I o E p := by first | exact a_bd rfl (by repeat any_goals first | exact vf0 | refine' vf1 rfl ?_) (by rfl)) : OpOK P I o E p := h
theorem oI (h : OpOK P I o E p := by first | exact a_bs rfl rfl (by rfl) (by repeat any_goals first | exact vr0 | refine' vr1 rfl (by rfl) ?_)) : OpOK P I o E p := h
theorem kc0 {f : FuncId} {ts : Array TypeId} {res : Pr} (hf : Fun P f [] res) (ho : o.op = .call { callee := .value (.func f), args := #[], argTypes := ts }) : OpOK P I o E res := ok_call ho hf trivial
theorem kc1 {f : FuncId} {ts : Array TypeId} {x0 : Operand} {p0 : Pr} {res : Pr} (hf : Fun P f [p0] res) (ho : o.op = .call { callee := .value (.func f), args := #[x0], argTypes := ts }) (h0 : Val E x0 = some p0) : OpOK P I o E res := ok_call ho hf ⟨ke h0, trivial⟩
theorem kc2 {f : FuncId} {ts : Array TypeId} {x0 : Operand} {p0 : Pr} {x1 : Operand} {p1 : Pr} {res : Pr} (hf : Fun P f [p0, p1] res) (ho : o.op = .call { callee := .value (.func f), args := #[x0, x1], argTypes := ts }) (h0 : Val E x0 = some p0) (h1 : Val E x1 = some p1) : OpOK P I o E res := ok_call ho hf ⟨ke h0, ke h1, trivial⟩
theorem kc3 {f : FuncId} {ts : Array TypeId} {x0 : Operand} {p0 : Pr} {x1 : Operand} {p1 : Pr} {x2 : Operand} {p2 : Pr} {res : Pr} (hf : Fun P f [p0, p1, p2] res) (ho : o.op = .call { callee := .value (.func f), args := #[x0, x1, x2], argTypes := ts }) (h0 : Val E x0 = some p0) (h1 : Val E x1 = some p1) (h2 : Val E x2 = some p2) : OpOK P I o E res := ok_call ho hf ⟨ke h0, ke h1, ke h2, trivial⟩
theorem kc5 {f : FuncId} {ts : Array TypeId} {x0 : Operand} {p0 : Pr} {x1 : Operand} {p1 : Pr} {x2 : Operand} {p2 : Pr} {x3 : Operand} {p3 : Pr} {x4 : Operand} {p4 : Pr} {res : Pr} (hf : Fun P f [p0, p1, p2, p3, p4] res) (ho : o.op = .call { callee := .value (.func f), args := #[x0, x1, x2, x3, x4], argTypes := ts }) (h0 : Val E x0 = some p0) (h1 : Val E x1 = some p1) (h2 : Val E x2 = some p2) (h3 : Val E x3 = some p3) (h4 : Val E x4 = some p4) : OpOK P I o E res := ok_call ho hf ⟨ke h0, ke h1, ke h2, ke h3, ke h4, trivial⟩
theorem cP (_ : isPl o = true) (h : Ch P n I ops (o :: r) E K) : Ch P n I ops (o :: r) E K := h
theorem cG (_ : isPl o = false) (h : Ch P n I ops (o :: r) E K) : Ch P n I ops (o :: r) E K := h
theorem cK (k : Nat) (_ : opk o = k) (h : Ch P n I ops (o :: r) E K) : Ch P n I ops (o :: r) E K := h
theorem cS (k : Nat) (_ : grp o = k) (h : Ch P n I ops (o :: r) E K) : Ch P n I ops (o :: r) E K := h
theorem tK (k : Nat) (_ : opk o = k) (h : TO P n ops (o :: r) E I Q) : TO P n ops (o :: r) E I Q := h
theorem tG (k : Nat) (_ : grp o = k) (h : TO P n ops (o :: r) E I Q) : TO P n ops (o :: r) E I Q := h
theorem Tr.rm [i : TM P] {id : Nat} {l : List Oper} (hB : drawOk l = true) (h : Ch P n I l.toArray l E (fun E' => Fin n E' I Q .normal)) : Tr P n E I (.region id l.toArray true) Q := Tr.reg1 i.h hB h
theorem Tr.ct {c : Operand} {y z : Code} (hc : Val E c = some (bool true)) (k : Tr P n E I y Q) : Tr P n E I (.cond c y z) Q := Tr.cond hc (fun _ => k) (fun h => nomatch h)
theorem Tr.cf {c : Operand} {y z : Code} (hc : Val E c = some (bool false)) (k : Tr P n E I z Q) : Tr P n E I (.cond c y z) Q := Tr.cond hc (fun h => nomatch h) (fun _ => k)
/-- What comes later. -/
structure Lt_ (G : Prop) : Prop where
  k : G
theorem Cx.mono {M0 : Av} {w0 : World} {S : Nat → Prop} : ∀ {l : List Oper} {E : Env} {rs : List SR} {K K' : List X → Env → List SR → Prop}, (∀ L E rs, K L E rs → K' L E rs) → Cx P M0 w0 S n ops l E rs K → Cx P M0 w0 S n ops l E rs K'
  | [], _, _, _, _, h, k => h _ _ _ k
  | _ :: _, _, _, _, _, h, ⟨p, k, h1, h2, h3⟩ => ⟨p, k, h1, h2, Cx.mono (fun _ _ _ => h _ _ _) h3⟩
theorem Cx.keys {M0 : Av} {w0 : World} {S : Nat → Prop} : ∀ {l : List Oper} {E : Env} {rs : List SR} {K : List X → Env → List SR → Prop}, Cx P M0 w0 S n ops l E rs K → ∃ ks : List KN, Cx P M0 w0 S n ops l E rs (fun L E' rs' => L.map (·.k.nums) = ks ∧ K L E' rs')
  | [], _, _, _, k => ⟨[], rfl, k⟩
  | _ :: _, _, _, _, ⟨p, k, h1, h2, h3⟩ => by
    obtain ⟨ks, h4⟩ := Cx.keys h3
    exact ⟨k.nums :: ks, p, k, h1, h2, Cx.mono (fun L E rs h => ⟨by rw [List.map_cons, h.1], h.2⟩) h4⟩
theorem Tr.rx [i : TM P] {M0 : Av} {w0 : World} {S : Nat → Prop} {id : Nat} {l : List Oper} {rs0 : List Res}
    (h : Cx P M0 w0 S n l.toArray l E (rs0.map SR.c) (fun L E' rs' => drawOkX l (L.map (·.k.nums)) = true ∧ FinX n M0 w0 S E' rs' Q)) : Tr P n E (Hp M0 w0 S rs0) (.region id l.toArray true) Q := by
  obtain ⟨ks, hk⟩ := Cx.keys h
  obtain ⟨L, h1, h2, h3⟩ := cx_list l 0 E _ hk
  exact Tr.regX i.h ks (by rw [← h3.1]; exact h3.2.1) (hk.mono fun _ _ _ h => ⟨h.1, h.2.2⟩)
theorem al1 {rs : List Res} {r0 : Res} : AllC (SR.c r0 :: rs.map SR.c) (r0 :: rs) := .cons (AllC.map _)
theorem al2 {rs : List Res} {r0 : Res} {r1 : Res} : AllC (SR.c r0 :: SR.c r1 :: rs.map SR.c) (r0 :: r1 :: rs) := .cons (.cons (AllC.map _))
theorem al3 {rs : List Res} {r0 : Res} {r1 : Res} {r2 : Res} : AllC (SR.c r0 :: SR.c r1 :: SR.c r2 :: rs.map SR.c) (r0 :: r1 :: r2 :: rs) := .cons (.cons (.cons (AllC.map _)))
theorem al4 {rs : List Res} {r0 : Res} {r1 : Res} {r2 : Res} {r3 : Res} : AllC (SR.c r0 :: SR.c r1 :: SR.c r2 :: SR.c r3 :: rs.map SR.c) (r0 :: r1 :: r2 :: r3 :: rs) := .cons (.cons (.cons (.cons (AllC.map _))))
theorem al5 {rs : List Res} {r0 : Res} {r1 : Res} {r2 : Res} {r3 : Res} {r4 : Res} : AllC (SR.c r0 :: SR.c r1 :: SR.c r2 :: SR.c r3 :: SR.c r4 :: rs.map SR.c) (r0 :: r1 :: r2 :: r3 :: r4 :: rs) := .cons (.cons (.cons (.cons (.cons (AllC.map _)))))
theorem fo {f : FuncId} {g : Func} {c : Code} {ps : List Pr} {res : Pr} (hf : P.funcs[f]? = some g) (hb : g.body = some c) (hname : ((g.name == "runtime.NumGoroutine") = false ∧ Nat.ble ps.length g.ntmps = true))
    (h : ∀ M0 w0, Tr P g.ntmps (penv 0 ps) (Bse M0 w0) c (bodyPost P g (Back M0 w0 res))) : Fun P f ps res := Fun.of hf hb hname.1 (Nat.le_of_ble_eq_true hname.2) h
section
variable {M0 : Av} {w0 : World} {S : Nat → Prop} {rs : List SR} {KX : List X → Env → List SR → Prop}
theorem xId {l : List Oper} (h : Cx P M0 w0 S n ops l E rs KX) : Cx P M0 w0 S n ops l E rs KX := h
theorem xK (k : Nat) (_ : opk o = k) (h : Cx P M0 w0 S n ops (o :: r) E rs KX) : Cx P M0 w0 S n ops (o :: r) E rs KX := h
theorem xG (k : Nat) (_ : grp o = k) (h : Cx P M0 w0 S n ops (o :: r) E rs KX) : Cx P M0 w0 S n ops (o :: r) E rs KX := h
end
theorem cId {l : List Oper} (h : Ch P n I ops l E K) : Ch P n I ops l E K := h
theorem rId {c : Code} (h : Tr P n E I c Q) : Tr P n E I c Q := h
theorem fId {e : Exit} (h : Fin n E I Q e) : Fin n E I Q e := h
theorem tId {l : List Oper} (h : TO P n ops l E I Q) : TO P n ops l E I Q := h
/-- On to the next statement. -/
theorem ac {G H : Prop} (k : G) (h : Lt_ G → H := by
  intro k
  repeat first
    | ((with_reducible refine cId ?_); first
      | with_reducible refine Ch.nil ?_
      | (refine cP rfl ?_; first
        | (refine cS 1 rfl ?_; first
            | (refine cK 1 rfl ?_; refine cm rfl ?_)
            | (refine cK 2 rfl ?_; refine co rfl oF ?_)
            | (refine cK 3 rfl ?_; refine co rfl oL ?_)
            | (refine cK 4 rfl ?_; refine co rfl oB ?_))
        | (refine cS 2 rfl ?_; first
            | (refine cK 5 rfl ?_; refine co rfl oP ?_)
            | (refine cK 6 rfl ?_; refine co rfl oN ?_)
            | (refine cK 7 rfl ?_; refine co rfl oA ?_)
            | (refine cK 8 rfl ?_; refine co rfl oS ?_))
        | (refine cS 3 rfl ?_; first
            | (refine cK 9 rfl ?_; refine co rfl oC ?_)
            | (refine cK 10 rfl ?_; refine co rfl oU ?_)
            | (refine cK 11 rfl ?_; refine co rfl oO ?_)
            | (refine cK 12 rfl ?_; refine co rfl oE ?_)
            | (refine cK 13 rfl ?_; refine co rfl oM ?_)
            | (refine cK 14 rfl ?_; refine co rfl oD ?_)
            | (refine cK 15 rfl ?_; refine co rfl oI ?_)))
      | (refine cG rfl ?_; first
        | refine cu rfl ?_
        | refine cnt (by assumption) rfl ?_
        | refine cnf (by assumption) rfl ?_
        | (refine cS 1 rfl ?_; first
            | (refine cK 1 rfl ?_; refine cym (by first | assumption | rfl) rfl ?_)
            | (refine cK 2 rfl ?_; refine cy (by first | assumption | rfl) rfl oF ?_)
            | (refine cK 3 rfl ?_; refine cy (by first | assumption | rfl) rfl oL ?_)
            | (refine cK 4 rfl ?_; refine cy (by first | assumption | rfl) rfl oB ?_))
        | (refine cS 2 rfl ?_; first
            | (refine cK 5 rfl ?_; refine cy (by first | assumption | rfl) rfl oP ?_)
            | (refine cK 6 rfl ?_; refine cy (by first | assumption | rfl) rfl oN ?_)
            | (refine cK 7 rfl ?_; refine cy (by first | assumption | rfl) rfl oA ?_)
            | (refine cK 8 rfl ?_; refine cy (by first | assumption | rfl) rfl oS ?_))
        | (refine cS 3 rfl ?_; first
            | (refine cK 9 rfl ?_; refine cy (by first | assumption | rfl) rfl oC ?_)
            | (refine cK 10 rfl ?_; refine cy (by first | assumption | rfl) rfl oU ?_)
            | (refine cK 11 rfl ?_; refine cy (by first | assumption | rfl) rfl oO ?_)
            | (refine cK 12 rfl ?_; refine cy (by first | assumption | rfl) rfl oE ?_)
            | (refine cK 13 rfl ?_; refine cy (by first | assumption | rfl) rfl oM ?_)
            | (refine cK 14 rfl ?_; refine cy (by first | assumption | rfl) rfl oD ?_)
            | (refine cK 15 rfl ?_; refine cy (by first | assumption | rfl) rfl oI ?_))
        | refine cnd rfl rfl ?_))
    | ((with_reducible refine rId ?_); first
      | with_reducible refine Tr.seq ?_
      | with_reducible refine Tr.reg0 ?_
      | refine Tr.rm (by kernel_rfl) ?_
      | with_reducible refine Tr.skip ?_
      | with_reducible refine Tr.block ?_
      | with_reducible refine Tr.ret ?_
      | with_reducible refine Tr.exit ?_
      | refine Tr.ct rfl ?_
      | refine Tr.cf rfl ?_)
    | ((with_reducible refine fId ?_); first
      | with_reducible refine Fin.then_ret ?_
      | with_reducible refine Fin.block_ret ?_
      | with_reducible refine Fin.then_exit ?_
      | with_reducible refine Fin.block_here ?_
      | refine Fin.block_on rfl ?_
      | with_reducible refine Fin.block ?_
      | refine Fin.ret1 rfl (OutW.bse _ _) rfl ?_)
  first | with_reducible refine Fin.go ?_ | with_reducible refine cId ?_ | with_reducible refine tId ?_ | with_reducible refine rId ?_ | refine Fin.go ?_ | skip
  exact k.k) : H := h ⟨k⟩
/-- The same, with what is turned. -/
theorem ao {G H : Prop} (k : G) (h : Lt_ G → H := by
  intro k
  repeat first
    | ((with_reducible refine tId ?_); first
      | with_reducible refine TO.nil ?_
      | (refine tG 1 rfl ?_; first
          | (refine tK 1 rfl ?_; refine tm rfl ?_)
          | (refine tK 2 rfl ?_; refine tp rfl oF ?_)
          | (refine tK 3 rfl ?_; refine tp rfl oL ?_)
          | (refine tK 4 rfl ?_; refine tp rfl oB ?_))
      | (refine tG 2 rfl ?_; first
          | (refine tK 5 rfl ?_; refine tp rfl oP ?_)
          | (refine tK 6 rfl ?_; refine tp rfl oN ?_)
          | (refine tK 7 rfl ?_; refine tp rfl oA ?_)
          | (refine tK 8 rfl ?_; refine tp rfl oS ?_))
      | (refine tG 3 rfl ?_; first
          | (refine tK 9 rfl ?_; refine tp rfl oC ?_)
          | (refine tK 10 rfl ?_; refine tp rfl oU ?_)
          | (refine tK 12 rfl ?_; refine tp rfl oE ?_)
          | (refine tK 13 rfl ?_; refine tp rfl oM ?_)
          | (refine tK 14 rfl ?_; refine tp rfl oD ?_)
          | (refine tK 15 rfl ?_; refine tp rfl oI ?_)))
    | ((with_reducible refine rId ?_); first
      | with_reducible refine Tr.seq ?_
      | with_reducible refine Tr.regT ?_
      | with_reducible refine Tr.skip ?_
      | with_reducible refine Tr.block ?_
      | with_reducible refine Tr.ret ?_
      | with_reducible refine Tr.exit ?_)
    | ((with_reducible refine fId ?_); first
      | with_reducible refine Fin.then_ret ?_
      | with_reducible refine Fin.block_ret ?_
      | with_reducible refine Fin.then_exit ?_
      | with_reducible refine Fin.block_here ?_
      | refine Fin.block_on rfl ?_
      | with_reducible refine Fin.block ?_)
  first | with_reducible refine Fin.go ?_ | with_reducible refine cId ?_ | with_reducible refine tId ?_ | with_reducible refine rId ?_ | refine Fin.go ?_ | skip
  exact k.k) : H := h ⟨k⟩
/-- And stores. -/
theorem ap {G H : Prop} (k : G) (h : Lt_ G → H := by
  intro k
  repeat first
    | ((with_reducible refine tId ?_); first
      | with_reducible refine TO.nil ?_
      | (refine tG 1 rfl ?_; first
          | (refine tK 1 rfl ?_; refine tm rfl ?_)
          | (refine tK 2 rfl ?_; refine tp rfl oF ?_)
          | (refine tK 3 rfl ?_; refine tp rfl oL ?_)
          | (refine tK 4 rfl ?_; refine tp rfl oB ?_))
      | (refine tG 2 rfl ?_; first
          | (refine tK 5 rfl ?_; refine tp rfl oP ?_)
          | (refine tK 6 rfl ?_; refine tp rfl oN ?_)
          | (refine tK 7 rfl ?_; refine tp rfl oA ?_)
          | (refine tK 8 rfl ?_; refine tp rfl oS ?_))
      | (refine tG 3 rfl ?_; first
          | (refine tK 9 rfl ?_; refine tp rfl oC ?_)
          | (refine tK 10 rfl ?_; refine tp rfl oU ?_)
          | (refine tK 12 rfl ?_; refine tp rfl oE ?_)
          | (refine tK 13 rfl ?_; refine tp rfl oM ?_)
          | (refine tK 14 rfl ?_; refine tp rfl oD ?_)
          | (refine tK 15 rfl ?_; refine tp rfl oI ?_))
      | (refine tK 16 rfl ?_; first
        | refine sa 0 ⟨rfl, rfl, rfl⟩ rfl rfl rfl ?_
        | refine TO.ef0 0 rfl rfl (a_st rfl rfl rfl rfl) ?_
        | refine sa 1 ⟨rfl, rfl, rfl⟩ rfl rfl rfl ?_
        | refine TO.ef0 1 rfl rfl (a_st rfl rfl rfl rfl) ?_
        | refine sa 2 ⟨rfl, rfl, rfl⟩ rfl rfl rfl ?_
        | refine TO.ef0 2 rfl rfl (a_st rfl rfl rfl rfl) ?_
        | refine sa 3 ⟨rfl, rfl, rfl⟩ rfl rfl rfl ?_
        | refine TO.ef0 3 rfl rfl (a_st rfl rfl rfl rfl) ?_))
    | ((with_reducible refine rId ?_); first
      | with_reducible refine Tr.seq ?_
      | with_reducible refine Tr.regT ?_
      | with_reducible refine Tr.skip ?_
      | with_reducible refine Tr.block ?_
      | with_reducible refine Tr.ret ?_
      | with_reducible refine Tr.exit ?_)
    | ((with_reducible refine fId ?_); first
      | with_reducible refine Fin.then_ret ?_
      | with_reducible refine Fin.block_ret ?_
      | with_reducible refine Fin.then_exit ?_
      | with_reducible refine Fin.block_here ?_
      | refine Fin.block_on rfl ?_
      | with_reducible refine Fin.block ?_)
  first | with_reducible refine Fin.go ?_ | with_reducible refine cId ?_ | with_reducible refine tId ?_ | with_reducible refine rId ?_ | refine Fin.go ?_ | skip
  exact k.k) : H := h ⟨k⟩
/-- The same in a drawn region that writes. -/
theorem ax {G H : Prop} (k : G) (h : Lt_ G → H := by
  intro k
  repeat ((with_reducible refine xId ?_); first
      | (refine xG 1 rfl ?_; first
          | (refine xK 1 rfl ?_; refine xm rfl ?_)
          | (refine xK 2 rfl ?_; refine xo rfl (fun _ => oF) ?_)
          | (refine xK 3 rfl ?_; refine xo rfl (fun _ => oL) ?_)
          | (refine xK 4 rfl ?_; refine xo rfl (fun _ => oB) ?_))
      | (refine xG 2 rfl ?_; first
          | (refine xK 5 rfl ?_; refine xo rfl (fun _ => oP) ?_)
          | (refine xK 6 rfl ?_; refine xo rfl (fun _ => oN) ?_)
          | (refine xK 7 rfl ?_; refine xo rfl (fun _ => oA) ?_)
          | (refine xK 8 rfl ?_; refine xo rfl (fun _ => oS) ?_))
      | (refine xG 3 rfl ?_; first
          | (refine xK 9 rfl ?_; refine xo rfl (fun _ => oC) ?_)
          | (refine xK 10 rfl ?_; refine xo rfl (fun _ => oU) ?_)
          | (refine xK 11 rfl ?_; refine xo rfl (fun _ => oO) ?_)
          | (refine xK 12 rfl ?_; refine xo rfl (fun _ => oE) ?_)
          | (refine xK 13 rfl ?_; refine xo rfl (fun _ => oM) ?_)
          | (refine xK 14 rfl ?_; refine xo rfl (fun _ => oD) ?_))
      | (refine xK 3 rfl ?_; first
        | refine xrd 0 rfl rfl (a_r1 rfl rfl rfl) ?_
        | refine xrd 0 rfl rfl (a_rA rfl rfl rfl rfl) ?_
        | refine xrd 1 rfl rfl (a_r1 rfl rfl rfl) ?_
        | refine xrd 1 rfl rfl (a_rA rfl rfl rfl rfl) ?_
        | refine xrd 2 rfl rfl (a_r1 rfl rfl rfl) ?_
        | refine xrd 2 rfl rfl (a_rA rfl rfl rfl rfl) ?_
        | refine xrd 3 rfl rfl (a_r1 rfl rfl rfl) ?_
        | refine xrd 3 rfl rfl (a_rA rfl rfl rfl rfl) ?_
        | refine xrd 4 rfl rfl (a_r1 rfl rfl rfl) ?_
        | refine xrd 4 rfl rfl (a_rA rfl rfl rfl rfl) ?_))
  exact k.k) : H := h ⟨k⟩
/-- And stores. -/
theorem ay {G H : Prop} (k : G) (h : Lt_ G → H := by
  intro k
  repeat ((with_reducible refine xId ?_); first
      | (refine xG 1 rfl ?_; first
          | (refine xK 1 rfl ?_; refine xm rfl ?_)
          | (refine xK 2 rfl ?_; refine xo rfl (fun _ => oF) ?_)
          | (refine xK 3 rfl ?_; refine xo rfl (fun _ => oL) ?_)
          | (refine xK 4 rfl ?_; refine xo rfl (fun _ => oB) ?_))
      | (refine xG 2 rfl ?_; first
          | (refine xK 5 rfl ?_; refine xo rfl (fun _ => oP) ?_)
          | (refine xK 6 rfl ?_; refine xo rfl (fun _ => oN) ?_)
          | (refine xK 7 rfl ?_; refine xo rfl (fun _ => oA) ?_)
          | (refine xK 8 rfl ?_; refine xo rfl (fun _ => oS) ?_))
      | (refine xG 3 rfl ?_; first
          | (refine xK 9 rfl ?_; refine xo rfl (fun _ => oC) ?_)
          | (refine xK 10 rfl ?_; refine xo rfl (fun _ => oU) ?_)
          | (refine xK 11 rfl ?_; refine xo rfl (fun _ => oO) ?_)
          | (refine xK 12 rfl ?_; refine xo rfl (fun _ => oE) ?_)
          | (refine xK 13 rfl ?_; refine xo rfl (fun _ => oM) ?_)
          | (refine xK 14 rfl ?_; refine xo rfl (fun _ => oD) ?_))
      | (refine xK 3 rfl ?_; first
        | refine xrd 0 rfl rfl (a_r1 rfl rfl rfl) ?_
        | refine xrd 0 rfl rfl (a_rA rfl rfl rfl rfl) ?_
        | refine xrd 1 rfl rfl (a_r1 rfl rfl rfl) ?_
        | refine xrd 1 rfl rfl (a_rA rfl rfl rfl rfl) ?_
        | refine xrd 2 rfl rfl (a_r1 rfl rfl rfl) ?_
        | refine xrd 2 rfl rfl (a_rA rfl rfl rfl rfl) ?_
        | refine xrd 3 rfl rfl (a_r1 rfl rfl rfl) ?_
        | refine xrd 3 rfl rfl (a_rA rfl rfl rfl rfl) ?_
        | refine xrd 4 rfl rfl (a_r1 rfl rfl rfl) ?_
        | refine xrd 4 rfl rfl (a_rA rfl rfl rfl rfl) ?_)
      | (refine xK 16 rfl ?_; first
        | refine Cx.ef0 0 rfl rfl (a_st rfl rfl rfl rfl) ?_
        | refine Cx.ef0 1 rfl rfl (a_st rfl rfl rfl rfl) ?_
        | refine Cx.ef0 2 rfl rfl (a_st rfl rfl rfl rfl) ?_
        | refine Cx.ef0 3 rfl rfl (a_st rfl rfl rfl rfl) ?_))
  exact k.k) : H := h ⟨k⟩
end
end Cp
