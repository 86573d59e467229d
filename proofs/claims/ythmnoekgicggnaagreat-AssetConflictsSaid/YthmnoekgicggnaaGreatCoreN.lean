/-
  From a statement's arguments to what we know of values; from our contracts to a statement.
-/
import Derived.Test.YthmnoekgicggnaaGreatCoreM
import Derived.ChangeArms
import Derived.OpenShut
import Derived.ChangeSame
import Derived.RowKit
import Derived.ProofKit
namespace Cp
open Go Go.RowKit Go.Great Go.ChangeShapes Go.WideShapes

def noM : Av := fun _ _ => False
theorem noM_bd (w : World) : Bd noM w := fun _ _ h => h.elim

/-- What stands in cells of type t. -/
def Opens (P : Program) (t : TypeId) {α : Type} (ok : α → Prop) (f : α → List Pr) : Prop :=
  ∀ (H : Type) (enc : TypeId × Value → H) (w : World) (fuel : Nat) (cs : List Value) (x : DataW H × List MemPlace), DataW.trod enc P w 0 (fun _ => true) true fuel t cs = some x → ∃ a, ok a ∧ HL noM w (f a) cs ∧ ∀ c ∈ cs, c.oneCell' = true

theorem Opens.map {P : Program} {t : TypeId} {α β : Type} {ok : α → Prop} {f : α → List Pr} {ok' : β → Prop} {f' : β → List Pr} (h : Opens P t ok f) (g : α → β) (h1 : ∀ a, ok a → ok' (g a)) (h2 : ∀ a, f' (g a) = f a) : Opens P t ok' f' := by
  intro H enc w fuel cs x hx
  obtain ⟨a, h3, h4, h5⟩ := h H enc w fuel cs x hx
  exact ⟨g a, h1 a h3, by rw [h2]; exact h4, h5⟩
theorem opens_int {P : Program} {t : TypeId} {k : IntKind} (ht : P.underlying t = some (.int k)) : Opens P t (fun n : Int => (Lit.int k n).wf = true) (fun n => [is (.int k n)]) := by
  intro H enc w fuel cs x hx
  obtain ⟨n, rfl, _, hw⟩ := DataW.trod_int ht hx
  exact ⟨n, hw, ⟨rfl, trivial⟩, by simp [Value.oneCell']⟩
theorem opens_bool {P : Program} {t : TypeId} (ht : P.underlying t = some .bool) : Opens P t (fun _ : Bool => True) (fun b => [bool b]) := by
  intro H enc w fuel cs x hx
  obtain ⟨n, rfl, _⟩ := DataW.trod_bool ht hx
  exact ⟨n, trivial, ⟨rfl, trivial⟩, by simp [Value.oneCell']⟩
theorem opens_string {P : Program} {t : TypeId} (ht : P.underlying t = some .string) : Opens P t (fun s : ByteArray => s.size ≤ maxLen) (fun s => [is (.string s)]) := by
  intro H enc w fuel cs x hx
  obtain ⟨n, rfl, _, h⟩ := DataW.trod_string ht hx
  exact ⟨n, h, ⟨rfl, trivial⟩, by simp [Value.oneCell']⟩
theorem HL.len {M : Av} {w : World} : ∀ {ps : List Pr} {vs : List Value}, HL M w ps vs → ps.length = vs.length
  | [], [], _ => rfl
  | p :: ps, v :: vs, h => by simp [HL.len h.2]
  | [], _ :: _, h => h.elim
  | _ :: _, [], h => h.elim
theorem HL.nth {M : Av} {w : World} : ∀ {ps : List Pr} {vs : List Value} (j : Nat) (p : Pr), HL M w ps vs → ps[j]? = some p → ∃ v, vs[j]? = some v ∧ p.h M w v
  | p :: ps, v :: vs, 0, q, h, hj => by simp at hj; subst hj; exact ⟨v, rfl, h.1⟩
  | p :: ps, v :: vs, j + 1, q, h, hj => by simpa using HL.nth j q h.2 (by simpa using hj)
  | [], [], _, _, _, hj => by simp at hj
  | [], _ :: _, _, _, h, _ => h.elim
  | _ :: _, [], _, _, h, _ => h.elim
theorem opens_list {H : Type} {enc : TypeId × Value → H} {P : Program} {w : World} {e : TypeId} {α : Type} {ok : α → Prop} {f : α → List Pr} (he : Opens P e ok f) {sz : Nat} (hc : P.cellsOf e = sz) {a : Addr} {m : Nat} :
    ∀ (len : Nat), (∀ i, i < len → ∃ y, (w.cells? 0 (a.add (i * sz)) sz).bind (DataW.trod enc P w 0 (fun _ => true) true m e) = some y) →
      ∃ l : List α, l.length = len ∧ (∀ z ∈ l, ok z) ∧ ∀ (i : Nat) z, l[i]? = some z → (f z).length = sz ∧ Row noM w a (i * sz) (f z)
  | 0, _ => ⟨[], rfl, by simp, by simp⟩
  | len + 1, h => by
    obtain ⟨l, h1, h2, h3⟩ := opens_list he hc len (fun i hi => h i (by omega))
    obtain ⟨y, hy⟩ := h len (by omega)
    obtain ⟨cs, hcs, hy⟩ := Option.bind_eq_some_iff.1 hy
    obtain ⟨z, hz, hl, h1c⟩ := he H enc w m cs y hy
    obtain ⟨_, hlen, hat⟩ := World.cells?_some hcs
    refine ⟨l ++ [z], by simp [h1], ?_, fun i u hu => ?_⟩
    · intro u hu
      rcases List.mem_append.1 hu with hu | hu
      · exact h2 u hu
      · rw [List.mem_singleton.1 hu]; exact hz
    · rcases Nat.lt_trichotomy i len with hi | hi | hi
      · rw [List.getElem?_append_left (by omega)] at hu
        exact h3 i u hu
      · subst hi
        rw [List.getElem?_append_right (by omega), h1] at hu
        simp at hu; subst hu
        have hfl : (f z).length = sz := by rw [hl.len, hlen]
        refine ⟨hfl, fun j p hp => ?_⟩
        obtain ⟨v, hv, hpv⟩ := hl.nth j p hp
        have hj : j < sz := by
          rcases Nat.lt_or_ge j (f z).length with h' | h'
          · omega
          · rw [List.getElem?_eq_none h'] at hp; cases hp
        refine ⟨v, ?_, fun hf => hf, h1c v (List.mem_of_getElem? hv), hpv⟩
        rw [← hv, ← hat j hj]
        rw [add_add]
      · rw [List.getElem?_eq_none (by simp [h1]; omega)] at hu; cases hu
theorem opens_slice {P : Program} {t e : TypeId} {α : Type} {ok : α → Prop} {f : α → List Pr} {sz : Nat} (ht : P.underlying t = some (.slice e)) (hc : P.cellsOf e = sz) (he : Opens P e ok f) :
    Opens P t (fun l : List α => (∀ z ∈ l, ok z) ∧ l.length ≤ maxLen) (fun l => [slice sz (l.map f)]) := by
  intro H enc w fuel cs x hx
  rcases DataW.trod_slice ht hx with ⟨rfl, _⟩ | ⟨a, len, cap, elems, rest, n, rfl, rfl, _, _, hl, hm, hel, hat, _⟩
  · exact ⟨[], ⟨by simp, by simp⟩, ⟨⟨none, 0, rfl, by simp, by simp, fun _ => rfl, by simp⟩, trivial⟩, by simp [Value.oneCell']⟩
  · obtain ⟨l, h1, h2, h3⟩ := opens_list (H := H) (enc := enc) (w := w) (a := a) (m := n) he hc len (fun i hi => by
      have := hat i hi
      rw [hc] at this
      rw [this, List.getElem?_eq_getElem (by omega)]
      exact ⟨_, rfl⟩)
    refine ⟨l, ⟨h2, by omega⟩, ⟨⟨some a, cap, by simp [h1], by simp; omega, hm, by simp, fun i row hr => ?_⟩, trivial⟩, by simp [Value.oneCell']⟩
    rw [List.getElem?_map] at hr
    cases hz : l[i]? with
    | none => rw [hz] at hr; cases hr
    | some z =>
      rw [hz] at hr; simp at hr; subst hr
      obtain ⟨h4, h5⟩ := h3 i z hz
      exact ⟨h4, a, rfl, h5⟩

/-- The fields of a struct, one behind the other from cell number `o` on. -/
def OpensF (P : Program) (o : Nat) (fs : List Field) {α : Type} (ok : α → Prop) (f : α → List Pr) : Prop :=
  ∀ (H : Type) (enc : TypeId × Value → H) (w : World) (n : Nat) (cs : List Value), (∀ fl ∈ fs, ∃ y, DataW.trod (H := H) enc P w 0 (fun _ => true) true n fl.type ((cs.drop fl.offset).take (P.cellsOf fl.type)) = some y) →
    cs.length = o + (fs.map fun fl => P.cellsOf fl.type).sum → ∃ a, ok a ∧ HL noM w (f a) (cs.drop o) ∧ ∀ c ∈ cs.drop o, c.oneCell' = true
theorem opensF_nil (P : Program) (o : Nat) : OpensF P o [] (fun _ : Unit => True) (fun _ => []) := by
  intro H enc w n cs _ hl
  have : cs.drop o = [] := List.drop_eq_nil_of_le (by simp at hl; omega)
  rw [this]
  exact ⟨(), trivial, trivial, by simp⟩
theorem opensF_cons {P : Program} {o c : Nat} {fl : Field} {fs : List Field} {α β : Type} {ok : α → Prop} {f : α → List Pr} {ok' : β → Prop} {f' : β → List Pr} (ho : fl.offset = o) (hc : P.cellsOf fl.type = c)
    (h : Opens P fl.type ok f) (k : OpensF P (o + c) fs ok' f') : OpensF P o (fl :: fs) (fun z : α × β => ok z.1 ∧ ok' z.2) (fun z => f z.1 ++ f' z.2) := by
  intro H enc w n cs hy hl
  obtain ⟨y, h0⟩ := hy fl (List.mem_cons_self ..)
  rw [ho, hc] at h0
  obtain ⟨a, h1, h2, h3⟩ := h H enc w n _ y h0
  obtain ⟨b, h4, h5, h6⟩ := k H enc w n cs (fun g hg => hy g (List.mem_cons_of_mem _ hg)) (by rw [hl]; simp [hc]; omega)
  have e : cs.drop o = (cs.drop o).take c ++ cs.drop (o + c) := by rw [← List.drop_drop, List.take_append_drop]
  refine ⟨(a, b), ⟨h1, h4⟩, by rw [e]; exact h2.app h5, fun v hv => ?_⟩
  rw [e] at hv
  rcases List.mem_append.1 hv with hv | hv
  · exact h3 v hv
  · exact h6 v hv
theorem opens_struct {P : Program} {t : TypeId} {fs : Array Field} {α : Type} {ok : α → Prop} {f : α → List Pr} (ht : P.underlying t = some (.struct fs)) (hc : P.cellsOf t = (fs.toList.map fun fl => P.cellsOf fl.type).sum) (h : OpensF P 0 fs.toList ok f) : Opens P t ok f := by
  intro H enc w fuel cs x hx
  obtain ⟨xs, n, rfl, _, hl, hxs, hat⟩ := DataW.trod_struct ht hx
  obtain ⟨a, h1, h2, h3⟩ := h H enc w n cs (fun fl hfl => by
    obtain ⟨i, hi⟩ := List.mem_iff_getElem?.1 hfl
    have hi' : fs[i]? = some fl := by simpa using hi
    have := hat i fl hi'
    rw [this]
    have hlt : i < fs.size := by
      rcases Nat.lt_or_ge i fs.size with h' | h'
      · exact h'
      · rw [Array.getElem?_eq_none h'] at hi'; cases hi'
    exact ⟨_, List.getElem?_eq_getElem (by omega)⟩) (by rw [hl, hc]; simp)
  exact ⟨a, h1, by simpa using h2, by simpa using h3⟩

/-- An argument of one cell. -/
theorem arg_one {H : Type} {enc : TypeId × Value → H} {P : Program} {w : World} {t : TypeId} {α : Type} {ok : α → Prop} {p : α → Pr} (ho : Opens P t ok (fun a => [p a])) {v : Value} {d : DataW H} {ps : List MemPlace} (h : DataW.Trod enc P w 0 (fun _ => true) true t v d ps) (hv : v.cells = #[v]) :
    ∃ a, ok a ∧ (p a).h noM w v := by
  obtain ⟨fuel, hf⟩ := h
  obtain ⟨a, h1, h2, _⟩ := ho _ _ _ _ _ _ hf
  rw [hv] at h2
  exact ⟨a, h1, h2.1⟩
theorem arg_agg {H : Type} {enc : TypeId × Value → H} {P : Program} {w : World} {t : TypeId} {α : Type} {ok : α → Prop} {f : α → List Pr} (ho : Opens P t ok f) {v : Value} {d : DataW H} {ps : List MemPlace} (h : DataW.Trod enc P w 0 (fun _ => true) true t v d ps) (hv : ∃ cs, v = .agg cs) :
    ∃ a, ok a ∧ (agg (f a)).h noM w v := by
  obtain ⟨fuel, hf⟩ := h
  obtain ⟨cs, rfl⟩ := hv
  obtain ⟨a, h1, h2, h3⟩ := ho _ _ _ _ _ _ hf
  exact ⟨a, h1, cs.toList, by simp, h3, h2⟩

theorem trodAll_below {H : Type} {enc : TypeId × Value → H} {P : Program} (hl : laidOutB P = true) {W W' : World} (hb : Below W.heap.size W W') :
    ∀ {ts : List TypeId} {vs : List Value} {ds : List (DataW H)} {ps : List MemPlace}, ts.all (fun t => P.readableRec t && decide (t < P.types.size)) = true → DataW.TrodAll enc P W 0 (fun _ => true) true ts vs ds ps → (∀ x ∈ ps, x.block < W.heap.size) →
      DataW.TrodAll enc P W' 0 (fun b => decide (b < W.heap.size)) true ts vs ds ps
  | [], vs, ds, ps, _, h, _ => by
    obtain ⟨rfl, rfl, rfl⟩ := trodAll_nil h
    rfl
  | t :: ts, vs, ds, ps, hr, h, hlt => by
    obtain ⟨v, vs', d, ds', p, q, rfl, rfl, rfl, h1, h2⟩ := trodAll_cons h
    simp only [List.all_cons, Bool.and_eq_true, decide_eq_true_eq] at hr
    exact ⟨p, q, Below.trod hl hr.1.1 hr.1.2 h1 hb (fun x hx => hlt x (List.mem_append_left _ hx)), trodAll_below hl hb (by simpa using hr.2) h2 (fun x hx => hlt x (List.mem_append_right _ hx)), rfl⟩

/-- A law that returns true and turns nothing. -/
theorem law_post {H : Type} {enc : TypeId × Value → H} {P : Program} {fn : Func} {s : ChangeSpec} {W W' : World} {args : Array Value} {ds gs : List (DataW H)} {before p : List MemPlace} {tb : TypeId} (hl : laidOutB P = true)
    (hr : fn.params.toList.all (fun t => P.readableRec t && decide (t < P.types.size)) = true) (hres : fn.resultTypes = #[tb]) (hb : P.underlying tb = some .bool) (hs : s.vars = [])
    (hA : DataW.TrodAll enc P W 0 (fun _ => true) true fn.params.toList args.toList ds p) (hp : before = p) (hW : DataW.Whole enc P fn.params.toList s.vars false W args.toList ds gs before)
    (hf : s.fn H (ds ++ gs) = { results := [.lit (.bool true)], args := ds }) (hbelow : Below W.heap.size W W') : s.post enc P fn false true false false W args (.bool true) W' := by
  subst hp
  refine ⟨ds, gs, before, [], before, [], hW, ?_, ?_, ?_, hbelow.frame _, fun h => by cases h⟩
  · rw [hf, hres]; exact trodAll_mk1 (shut_bool hb _)
  · rw [hf]; exact trodAll_below hl hbelow hr hA (fun x hx => by simpa using hW.lt x hx)
  · rw [hf, hs]; rfl
theorem HL.mk1 {M : Av} {w : World} {p : Pr} {v : Value} (h : p.h M w v) : HL M w [p] [v] := ⟨h, trivial⟩
end Cp
