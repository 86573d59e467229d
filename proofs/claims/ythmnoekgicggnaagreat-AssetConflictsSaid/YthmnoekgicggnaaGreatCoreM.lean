/-
  Loops whose rounds carry slices of our own (values v, of which we hold the room).
-/
import Derived.Test.YthmnoekgicggnaaGreatCoreL
namespace Cp
open Go Go.RowKit Go.Great

section
variable {P : Program} {n : Nat} {E : Env} {I : Asn} {Q : Exit → Act → World → Prop}
theorem Tr.post {c : Code} {Q Q' : Exit → Act → World → Prop} (h : Tr P n E I c Q) (hq : ∀ e a w, Q e a w → Q' e a w) : Tr P n E I c Q' := fun a w hs => Code.wp_mono hq (h a w hs)
theorem Tr.loopV1 {α : Type} (K : Env) (hK : SubL E K) (F : α → Value → Env) (Ii : α → Value → Asn) (C : α → Prop) (μ : α → Nat) {c : Code} (x0 : α) (v0 : Value) (h0 : C x0) (hs : SubL E (F x0 v0)) (hI : ∀ M w, I.h M w → (Ii x0 v0).h M w)
    (round : ∀ x v, C x → Tr P n (F x v ++ K) (Ii x v) c (Exit.then (fun a w => ∃ y u, (C y ∧ μ y < μ x) ∧ St n (F y u ++ K) (Ii y u) a w) Q)) : Tr P n E I (.loop c) Q :=
  Tr.loopR K hK (fun y : α × Value => F y.1 y.2) (fun y => Ii y.1 y.2) (fun y => C y.1) (fun y => μ y.1) (x0, v0) h0 hs hI fun y hy =>
    Tr.post (round y.1 y.2 hy) fun e a w h => by
      cases e <;> first | exact h | (obtain ⟨z, u, h1, h2⟩ := h; exact ⟨(z, u), h1, h2⟩)
theorem Tr.loopV2 {α : Type} (K : Env) (hK : SubL E K) (F : α → Value → Value → Env) (Ii : α → Value → Value → Asn) (C : α → Prop) (μ : α → Nat) {c : Code} (x0 : α) (v0 v1 : Value) (h0 : C x0) (hs : SubL E (F x0 v0 v1)) (hI : ∀ M w, I.h M w → (Ii x0 v0 v1).h M w)
    (round : ∀ x v v', C x → Tr P n (F x v v' ++ K) (Ii x v v') c (Exit.then (fun a w => ∃ y u u', (C y ∧ μ y < μ x) ∧ St n (F y u u' ++ K) (Ii y u u') a w) Q)) : Tr P n E I (.loop c) Q :=
  Tr.loopR K hK (fun y : α × Value × Value => F y.1 y.2.1 y.2.2) (fun y => Ii y.1 y.2.1 y.2.2) (fun y => C y.1) (fun y => μ y.1) (x0, v0, v1) h0 hs hI fun y hy =>
    Tr.post (round y.1 y.2.1 y.2.2 hy) fun e a w h => by
      cases e <;> first | exact h | (obtain ⟨z, u, u', h1, h2⟩ := h; exact ⟨(z, u, u'), h1, h2⟩)
theorem Fin.famV1 {α : Type} {E1 : α → Value → Env} {I1 : α → Value → Asn} {C : α → Prop} (i : α) (v : Value) (hC : C i) (hs : SubL E (E1 i v)) (hI : ∀ M w, I.h M w → (I1 i v).h M w) :
    Fin n E I (Exit.then (fun a w => ∃ i v, C i ∧ St n (E1 i v) (I1 i v) a w) Q) .normal := fun _ _ hst => ⟨i, v, hC, hst.sub hs hI⟩
theorem Fin.famV2 {α : Type} {E1 : α → Value → Value → Env} {I1 : α → Value → Value → Asn} {C : α → Prop} (i : α) (v v' : Value) (hC : C i) (hs : SubL E (E1 i v v')) (hI : ∀ M w, I.h M w → (I1 i v v').h M w) :
    Fin n E I (Exit.then (fun a w => ∃ i v v', C i ∧ St n (E1 i v v') (I1 i v v') a w) Q) .normal := fun _ _ hst => ⟨i, v, v', hC, hst.sub hs hI⟩
theorem own_nil {sz : Nat} {rows : List (List Pr)} (h : rows = []) : Pr.le (is (.slice none 0 0)) (andIs (.slice none 0 0) (slice sz rows)) := by
  subst h; exact fun M w v hv => ⟨hv, nil_slice sz M w v hv⟩
theorem own_le {v : Value} {sz : Nat} {rows rows' : List (List Pr)} (h : rows = rows') : Pr.le (andIs v (slice sz rows)) (andIs v (slice sz rows')) := by
  subst h; exact Pr.le_refl _
def LeL : List Pr → List Pr → Prop
  | [], [] => True
  | p :: ps, q :: qs => Pr.le p q ∧ LeL ps qs
  | _, _ => False
theorem LeL.hl {M : Av} {w : World} : ∀ {ps qs : List Pr} {vs : List Value}, LeL ps qs → HL M w ps vs → HL M w qs vs
  | [], [], _, _, h => h
  | _p :: _ps, _q :: _qs, [], _, h => h.elim
  | _p :: _ps, _q :: _qs, _v :: _vs, ⟨h1, h2⟩, ⟨h3, h4⟩ => ⟨h1 _ _ _ h3, h2.hl h4⟩
  | [], _ :: _, _, h, _ => h.elim
  | _ :: _, [], _, h, _ => h.elim
theorem LeL.len : ∀ {ps qs : List Pr}, LeL ps qs → ps.length = qs.length
  | [], [], _ => rfl
  | p :: ps, q :: qs, ⟨_, h⟩ => by simp [h.len]
  | [], _ :: _, h => h.elim
  | _ :: _, [], h => h.elim
theorem LeL.at_ : ∀ {ps qs : List Pr}, LeL ps qs → ∀ (i : Nat) q, qs[i]? = some q → ∃ p, ps[i]? = some p ∧ Pr.le p q
  | [], [], _, i, q, h => by simp at h
  | p :: ps, q :: qs, ⟨h1, h2⟩, 0, q', h => by simp at h; subst h; exact ⟨p, rfl, h1⟩
  | p :: ps, q :: qs, ⟨h1, h2⟩, i + 1, q', h => by simpa using h2.at_ i q' (by simpa using h)
  | [], _ :: _, h, _, _, _ => h.elim
  | _ :: _, [], h, _, _, _ => h.elim
theorem LeL.rfl' : ∀ (ps : List Pr), LeL ps ps
  | [] => trivial
  | _ :: ps => ⟨Pr.le_refl _, LeL.rfl' ps⟩
theorem agg_le {ps qs : List Pr} (h : LeL ps qs) : Pr.le (agg ps) (agg qs) := fun _M _w _v ⟨cs, h1, h2, h3⟩ => ⟨cs, h1, h2, h.hl h3⟩
theorem tup_le {ps qs : List Pr} (h : LeL ps qs) : Pr.le (tup ps) (tup qs) := fun _M _w _v ⟨cs, h1, h2⟩ => ⟨cs, h1, h.hl h2⟩
def LeR : List (List Pr) → List (List Pr) → Prop
  | [], [] => True
  | p :: ps, q :: qs => LeL p q ∧ LeR ps qs
  | _, _ => False
theorem LeR.len : ∀ {ps qs : List (List Pr)}, LeR ps qs → ps.length = qs.length
  | [], [], _ => rfl
  | p :: ps, q :: qs, ⟨_, h⟩ => by simp [h.len]
  | [], _ :: _, h => h.elim
  | _ :: _, [], h => h.elim
theorem LeR.at_ : ∀ {ps qs : List (List Pr)}, LeR ps qs → ∀ (i : Nat) q, qs[i]? = some q → ∃ p, ps[i]? = some p ∧ LeL p q
  | [], [], _, i, q, h => by simp at h
  | p :: ps, q :: qs, ⟨h1, h2⟩, 0, q', h => by simp at h; subst h; exact ⟨p, rfl, h1⟩
  | p :: ps, q :: qs, ⟨h1, h2⟩, i + 1, q', h => by simpa using h2.at_ i q' (by simpa using h)
  | [], _ :: _, h, _, _, _ => h.elim
  | _ :: _, [], h, _, _, _ => h.elim
theorem slice_le {sz : Nat} {ps qs : List (List Pr)} (h : LeR ps qs) : Pr.le (slice sz ps) (slice sz qs) := fun M w v ⟨a, cap, h1, h2, h3, h4, h5⟩ => by
  rw [h.len] at h1 h2
  refine ⟨a, cap, h1, h2, h3, h4, fun i row hr => ?_⟩
  obtain ⟨p, hp, hl⟩ := h.at_ i row hr
  obtain ⟨h6, ad, h7, h8⟩ := h5 i p hp
  refine ⟨by rw [← hl.len]; exact h6, ad, h7, fun j q hq => ?_⟩
  obtain ⟨p', hp', hl'⟩ := hl.at_ j q hq
  obtain ⟨u, h9, h10, h11, h12⟩ := h8 j p' hp'
  exact ⟨u, h9, h10, h11, hl' _ _ _ h12⟩
/-- A decided truth value, as a plain fact. -/
class Nrm (b v : Bool) (p : outParam Prop) : Prop where
  nrm : b = v → p
instance (priority := 10) nrm_any (b v : Bool) : Nrm b v (b = v) := ⟨id⟩
instance (priority := 100) nrm_t (p : Prop) [Decidable p] : Nrm (decide p) true p := ⟨of_decide_eq_true⟩
instance (priority := 100) nrm_f (p : Prop) [Decidable p] : Nrm (decide p) false (¬ p) := ⟨of_decide_eq_false⟩
instance (priority := 200) nrm_lt (a b : Int) : Nrm (decide (a < b)) false (b ≤ a) := ⟨fun h => by simpa using h⟩
instance (priority := 200) nrm_le (a b : Int) : Nrm (decide (a ≤ b)) false (b < a) := ⟨fun h => by simpa using h⟩
instance (priority := 200) nrm_eqt (a b : Int) : Nrm (a == b) true (a = b) := ⟨fun h => by simpa using h⟩
instance (priority := 200) nrm_eqf (a b : Int) : Nrm (a == b) false (¬ a = b) := ⟨fun h => by simpa using h⟩
instance (priority := 200) nrm_net (a b : Int) : Nrm (a != b) true (¬ a = b) := ⟨fun h => by simpa using h⟩
instance (priority := 200) nrm_nef (a b : Int) : Nrm (a != b) false (a = b) := ⟨fun h => by simpa using h⟩
end
end Cp
