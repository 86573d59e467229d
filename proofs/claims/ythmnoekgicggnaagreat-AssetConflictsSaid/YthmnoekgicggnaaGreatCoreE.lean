/-
  Loops over slices, cuts, small helps.
-/
import Derived.Test.YthmnoekgicggnaaGreatCoreD
import Derived.KernelRfl
namespace Cp
open Go Go.RowKit

section
variable {P : Program} {n : Nat} {E : Env} {I : Asn} {Q : Exit → Act → World → Prop}

theorem Ch.cases {ops : Array Oper} {l : List Oper} {K : Env → Prop} (g : Nat) {b : Bool} (_hb : E.lookup g = some (bool b)) (ht : b = true → Ch P n I ops l E K) (hf : b = false → Ch P n I ops l E K) : Ch P n I ops l E K := by
  cases b
  · exact hf rfl
  · exact ht rfl

theorem ne_true {b : Bool} (h : b = false) : b ≠ true := by rw [h]; decide
theorem ne_false {b : Bool} (h : b = true) : b ≠ false := by rw [h]; decide

/-- The slots that stay. -/
def keepE : List Nat → Env → Env
  | [], _ => []
  | s :: r, E => match E.lookup s with
    | some p => (s, p) :: keepE r E
    | none => keepE r E
theorem subL_keep : ∀ (l : List Nat), SubL E (keepE l E)
  | [] => trivial
  | s :: r => by
    unfold keepE
    cases h : E.lookup s with
    | none => exact subL_keep r
    | some p => exact ⟨⟨p, h, Pr.le_refl p⟩, subL_keep r⟩
theorem subL_app : ∀ {A B : Env}, SubL E A → SubL E B → SubL E (A ++ B)
  | [], _, _, h => h
  | (_, _) :: _, _, h, k => ⟨h.1, subL_app h.2 k⟩

theorem Tr.loopk {α : Type} (ks : List Nat) (F : α → Env) (C : α → Prop) (μ : α → Nat) {c : Code} (x0 : α) (h0 : C x0) (hs : SubL E (F x0))
    (round : ∀ x, C x → Tr P n (F x ++ keepE ks E) I c (Exit.then (fun a w => ∃ y, (C y ∧ μ y < μ x) ∧ St n (F y ++ keepE ks E) I a w) Q)) : Tr P n E I (.loop c) Q :=
  Tr.loop1 (fun x => F x ++ keepE ks E) C μ x0 h0 (subL_app hs (subL_keep ks)) round
theorem Tr.cutk (ks : List Nat) (F : Env) (φ : Prop) {x y : Code} (h : Tr P n E I x (Exit.then (fun a w => ∃ _ : Unit, φ ∧ St n (F ++ keepE ks E) I a w) Q)) (k : φ → Tr P n (F ++ keepE ks E) I y Q) : Tr P n E I (.seq x y) Q :=
  Tr.cut1 (F ++ keepE ks E) φ h k

theorem Tr.loopw {α : Type} (K : Env) (hK : SubL E K) (F : α → Env) (C : α → Prop) (μ : α → Nat) {c : Code} (x0 : α) (h0 : C x0) (hs : SubL E (F x0))
    (round : ∀ x, C x → Tr P n (F x ++ K) I c (Exit.then (fun a w => ∃ y, (C y ∧ μ y < μ x) ∧ St n (F y ++ K) I a w) Q)) : Tr P n E I (.loop c) Q :=
  Tr.loop1 (fun x => F x ++ K) C μ x0 h0 (subL_app hs hK) round
theorem Tr.loopR {α : Type} (K : Env) (hK : SubL E K) (F : α → Env) (Ii : α → Asn) (C : α → Prop) (μ : α → Nat) {c : Code} (x0 : α) (h0 : C x0) (hs : SubL E (F x0)) (hI : ∀ M w, I.h M w → (Ii x0).h M w)
    (round : ∀ x, C x → Tr P n (F x ++ K) (Ii x) c (Exit.then (fun a w => ∃ y, (C y ∧ μ y < μ x) ∧ St n (F y ++ K) (Ii y) a w) Q)) : Tr P n E I (.loop c) Q :=
  Tr.loop (fun x => F x ++ K) Ii C μ x0 h0 (subL_app hs hK) hI round
theorem Tr.cutw (K : Env) (F : Env) (φ : Prop) {x y : Code} (h : Tr P n E I x (Exit.then (fun a w => ∃ _ : Unit, φ ∧ St n (F ++ K) I a w) Q)) (k : φ → Tr P n (F ++ K) I y Q) : Tr P n E I (.seq x y) Q :=
  Tr.cut1 (F ++ K) φ h k

theorem len_le {M : Av} {w : World} {v : Value} {sz : Nat} {rows : List (List Pr)} (h : (slice sz rows).h M w v) : rows.length ≤ 9223372036854775807 := by
  obtain ⟨a, cap, _, h1, h2, _⟩ := h
  unfold maxLen at h2
  omega

theorem Tr.lenm (s : Nat) {sz : Nat} {β : Type} {f : β → List Pr} {l : List β} {c : Code} (hs : E.lookup s = some (slice sz (l.map f))) (h : l.length ≤ 9223372036854775807 → Tr P n E I c Q) : Tr P n E I c Q := by
  intro a w hst
  have := hst
  obtain ⟨M, _, _, he, _⟩ := this
  have h1 := len_le (he s _ hs)
  rw [List.length_map] at h1
  exact h h1 a w hst
theorem Tr.lenA (s j : Nat) {sz : Nat} {β : Type} {f : β → List Pr} {l : List β} {ps : List Pr} {c : Code} (hs : E.lookup s = some (agg ps)) (hj : ps[j]? = some (slice sz (l.map f))) (h : l.length ≤ 9223372036854775807 → Tr P n E I c Q) : Tr P n E I c Q := by
  intro a w hst
  have := hst
  obtain ⟨M, _, _, he, _⟩ := this
  obtain ⟨cs, _, _, h2⟩ := he s _ hs
  obtain ⟨v, _, h3⟩ := h2.at_ j _ hj
  have h1 := len_le h3
  rw [List.length_map] at h1
  exact h h1 a w hst
theorem Tr.fact (s : Nat) {φ : Prop} {p : Pr} {c : Code} (hs : E.lookup s = some (Cp.fact φ p)) (h : φ → Tr P n ((s, p) :: E) I c Q) : Tr P n E I c Q := by
  intro a w hst
  obtain ⟨M, h1, h2, he, h4⟩ := hst
  obtain ⟨h5, h6⟩ := he s _ hs
  refine h h5 a w ⟨M, h1, h2, ?_, h4⟩
  intro t q hq
  simp only [List.lookup] at hq
  by_cases ht : t = s
  · subst ht; simp at hq; subst hq; exact h6
  · rw [show (t == s) = false by simpa using ht] at hq; exact he t q hq
theorem Tr.ex (s : Nat) {α : Type} {p : α → Pr} {c : Code} (hs : E.lookup s = some (Cp.ex p)) (h : ∀ x, Tr P n ((s, p x) :: E) I c Q) : Tr P n E I c Q := by
  intro a w hst
  obtain ⟨M, h1, h2, he, h4⟩ := hst
  obtain ⟨x, h6⟩ := he s _ hs
  refine h x a w ⟨M, h1, h2, ?_, h4⟩
  intro t q hq
  simp only [List.lookup] at hq
  by_cases ht : t = s
  · subst ht; simp at hq; subst hq; exact h6
  · rw [show (t == s) = false by simpa using ht] at hq; exact he t q hq

theorem at_ {β : Type} {l : List β} {k : Nat} (h : k < l.length) : ∃ x, l[k]? = some x := ⟨l[k], List.getElem?_eq_getElem h⟩
theorem row_at {β : Type} {f : β → List Pr} {l : List β} {k : Nat} {x : β} (h : l[k]? = some x) : (l.map f)[((k : Nat) : Int).toNat]? = some (f x) := by
  rw [Int.toNat_natCast, List.getElem?_map, h]; rfl
theorem row_atI {β : Type} {f : β → List Pr} {l : List β} {i : Int} {x : β} (h : l[i.toNat]? = some x) : (l.map f)[i.toNat]? = some (f x) := by
  rw [List.getElem?_map, h]; rfl
theorem row_pred {β : Type} {f : β → List Pr} {l : List β} {k : Nat} {x : β} (hk : 0 < k) (h : l[k - 1]? = some x) : (l.map f)[((k : Nat) - 1 : Int).toNat]? = some (f x) := by
  rw [show ((k : Int) - 1).toNat = k - 1 by omega, List.getElem?_map, h]; rfl
theorem lt_of_dec {a b : Nat} (h : decide ((a : Int) < (b : Int)) = true) : a < b := by simpa using h
theorem ge_of_dec {a b : Nat} (h : decide ((a : Int) < (b : Int)) = false) : b ≤ a := by simp at h; omega
theorem int_succ (k : Nat) : Pr.le (int ((k : Int) + 1)) (int ((k + 1 : Nat) : Int)) := int_eq (by omega)
end
end Cp
