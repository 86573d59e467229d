/-
  Loops over several data and several values of our own; numbers drawn from a list; results that lie in memory.
-/
import Derived.Test.YthmnoekgicggnaaGreatCoreN
namespace Cp
open Go Go.RowKit Go.Great

section
variable {P : Program} {n : Nat} {E : Env} {I : Asn} {Q : Exit → Act → World → Prop}
theorem Tr.loopD1V0 {α0 : Type} (K : Env) (hK : SubL E K) (F : α0 → Env) (Ii : α0 → Asn) (C : α0 → Prop) (μ : α0 → Nat) {c : Code} (x0s : α0)  (h0 : C x0s) (hs : SubL E (F x0s)) (hI : ∀ M w, I.h M w → (Ii x0s).h M w)
    (round : ∀ x0, C x0 → Tr P n (F x0 ++ K) (Ii x0) c (Exit.then (fun a w => ∃ x0', (C x0' ∧ μ x0' < μ x0) ∧ St n (F x0' ++ K) (Ii x0') a w) Q)) : Tr P n E I (.loop c) Q :=
  Tr.loopR K hK (fun y : α0 => F y) (fun y => Ii y) (fun y => C y) (fun y => μ y) x0s h0 hs hI fun y hy =>
    Tr.post (round y hy) fun e a w h => by
      cases e <;> first | exact h | (obtain ⟨x0', h1, h2⟩ := h; exact ⟨x0', h1, h2⟩)
theorem Fin.famD1V0 {α0 : Type} {E1 : α0 → Env} {I1 : α0 → Asn} {C : α0 → Prop} (x0 : α0)  (hC : C x0) (hs : SubL E (E1 x0)) (hI : ∀ M w, I.h M w → (I1 x0).h M w) :
    Fin n E I (Exit.then (fun a w => ∃ x0', C x0' ∧ St n (E1 x0') (I1 x0') a w) Q) .normal := fun _ _ hst => ⟨x0, hC, hst.sub hs hI⟩
theorem Tr.loopD1V1 {α0 : Type} (K : Env) (hK : SubL E K) (F : α0 → Value → Env) (Ii : α0 → Value → Asn) (C : α0 → Prop) (μ : α0 → Nat) {c : Code} (x0s : α0) (v0s : Value) (h0 : C x0s) (hs : SubL E (F x0s v0s)) (hI : ∀ M w, I.h M w → (Ii x0s v0s).h M w)
    (round : ∀ x0 v0, C x0 → Tr P n (F x0 v0 ++ K) (Ii x0 v0) c (Exit.then (fun a w => ∃ x0' v0', (C x0' ∧ μ x0' < μ x0) ∧ St n (F x0' v0' ++ K) (Ii x0' v0') a w) Q)) : Tr P n E I (.loop c) Q :=
  Tr.loopR K hK (fun y : α0 × Value => F y.1 y.2) (fun y => Ii y.1 y.2) (fun y => C y.1) (fun y => μ y.1) (x0s, v0s) h0 hs hI fun y hy =>
    Tr.post (round y.1 y.2 hy) fun e a w h => by
      cases e <;> first | exact h | (obtain ⟨x0', v0', h1, h2⟩ := h; exact ⟨(x0', v0'), h1, h2⟩)
theorem Fin.famD1V1 {α0 : Type} {E1 : α0 → Value → Env} {I1 : α0 → Value → Asn} {C : α0 → Prop} (x0 : α0) (v0 : Value) (hC : C x0) (hs : SubL E (E1 x0 v0)) (hI : ∀ M w, I.h M w → (I1 x0 v0).h M w) :
    Fin n E I (Exit.then (fun a w => ∃ x0' v0', C x0' ∧ St n (E1 x0' v0') (I1 x0' v0') a w) Q) .normal := fun _ _ hst => ⟨x0, v0, hC, hst.sub hs hI⟩
theorem Tr.loopD1V2 {α0 : Type} (K : Env) (hK : SubL E K) (F : α0 → Value → Value → Env) (Ii : α0 → Value → Value → Asn) (C : α0 → Prop) (μ : α0 → Nat) {c : Code} (x0s : α0) (v0s : Value) (v1s : Value) (h0 : C x0s) (hs : SubL E (F x0s v0s v1s)) (hI : ∀ M w, I.h M w → (Ii x0s v0s v1s).h M w)
    (round : ∀ x0 v0 v1, C x0 → Tr P n (F x0 v0 v1 ++ K) (Ii x0 v0 v1) c (Exit.then (fun a w => ∃ x0' v0' v1', (C x0' ∧ μ x0' < μ x0) ∧ St n (F x0' v0' v1' ++ K) (Ii x0' v0' v1') a w) Q)) : Tr P n E I (.loop c) Q :=
  Tr.loopR K hK (fun y : α0 × Value × Value => F y.1 y.2.1 y.2.2) (fun y => Ii y.1 y.2.1 y.2.2) (fun y => C y.1) (fun y => μ y.1) (x0s, v0s, v1s) h0 hs hI fun y hy =>
    Tr.post (round y.1 y.2.1 y.2.2 hy) fun e a w h => by
      cases e <;> first | exact h | (obtain ⟨x0', v0', v1', h1, h2⟩ := h; exact ⟨(x0', v0', v1'), h1, h2⟩)
theorem Fin.famD1V2 {α0 : Type} {E1 : α0 → Value → Value → Env} {I1 : α0 → Value → Value → Asn} {C : α0 → Prop} (x0 : α0) (v0 : Value) (v1 : Value) (hC : C x0) (hs : SubL E (E1 x0 v0 v1)) (hI : ∀ M w, I.h M w → (I1 x0 v0 v1).h M w) :
    Fin n E I (Exit.then (fun a w => ∃ x0' v0' v1', C x0' ∧ St n (E1 x0' v0' v1') (I1 x0' v0' v1') a w) Q) .normal := fun _ _ hst => ⟨x0, v0, v1, hC, hst.sub hs hI⟩
theorem Tr.loopD1V3 {α0 : Type} (K : Env) (hK : SubL E K) (F : α0 → Value → Value → Value → Env) (Ii : α0 → Value → Value → Value → Asn) (C : α0 → Prop) (μ : α0 → Nat) {c : Code} (x0s : α0) (v0s : Value) (v1s : Value) (v2s : Value) (h0 : C x0s) (hs : SubL E (F x0s v0s v1s v2s)) (hI : ∀ M w, I.h M w → (Ii x0s v0s v1s v2s).h M w)
    (round : ∀ x0 v0 v1 v2, C x0 → Tr P n (F x0 v0 v1 v2 ++ K) (Ii x0 v0 v1 v2) c (Exit.then (fun a w => ∃ x0' v0' v1' v2', (C x0' ∧ μ x0' < μ x0) ∧ St n (F x0' v0' v1' v2' ++ K) (Ii x0' v0' v1' v2') a w) Q)) : Tr P n E I (.loop c) Q :=
  Tr.loopR K hK (fun y : α0 × Value × Value × Value => F y.1 y.2.1 y.2.2.1 y.2.2.2) (fun y => Ii y.1 y.2.1 y.2.2.1 y.2.2.2) (fun y => C y.1) (fun y => μ y.1) (x0s, v0s, v1s, v2s) h0 hs hI fun y hy =>
    Tr.post (round y.1 y.2.1 y.2.2.1 y.2.2.2 hy) fun e a w h => by
      cases e <;> first | exact h | (obtain ⟨x0', v0', v1', v2', h1, h2⟩ := h; exact ⟨(x0', v0', v1', v2'), h1, h2⟩)
theorem Fin.famD1V3 {α0 : Type} {E1 : α0 → Value → Value → Value → Env} {I1 : α0 → Value → Value → Value → Asn} {C : α0 → Prop} (x0 : α0) (v0 : Value) (v1 : Value) (v2 : Value) (hC : C x0) (hs : SubL E (E1 x0 v0 v1 v2)) (hI : ∀ M w, I.h M w → (I1 x0 v0 v1 v2).h M w) :
    Fin n E I (Exit.then (fun a w => ∃ x0' v0' v1' v2', C x0' ∧ St n (E1 x0' v0' v1' v2') (I1 x0' v0' v1' v2') a w) Q) .normal := fun _ _ hst => ⟨x0, v0, v1, v2, hC, hst.sub hs hI⟩
theorem Tr.loopD2V0 {α0 α1 : Type} (K : Env) (hK : SubL E K) (F : α0 → α1 → Env) (Ii : α0 → α1 → Asn) (C : α0 → α1 → Prop) (μ : α0 → α1 → Nat) {c : Code} (x0s : α0) (x1s : α1)  (h0 : C x0s x1s) (hs : SubL E (F x0s x1s)) (hI : ∀ M w, I.h M w → (Ii x0s x1s).h M w)
    (round : ∀ x0 x1, C x0 x1 → Tr P n (F x0 x1 ++ K) (Ii x0 x1) c (Exit.then (fun a w => ∃ x0' x1', (C x0' x1' ∧ μ x0' x1' < μ x0 x1) ∧ St n (F x0' x1' ++ K) (Ii x0' x1') a w) Q)) : Tr P n E I (.loop c) Q :=
  Tr.loopR K hK (fun y : α0 × α1 => F y.1 y.2) (fun y => Ii y.1 y.2) (fun y => C y.1 y.2) (fun y => μ y.1 y.2) (x0s, x1s) h0 hs hI fun y hy =>
    Tr.post (round y.1 y.2 hy) fun e a w h => by
      cases e <;> first | exact h | (obtain ⟨x0', x1', h1, h2⟩ := h; exact ⟨(x0', x1'), h1, h2⟩)
theorem Fin.famD2V0 {α0 α1 : Type} {E1 : α0 → α1 → Env} {I1 : α0 → α1 → Asn} {C : α0 → α1 → Prop} (x0 : α0) (x1 : α1)  (hC : C x0 x1) (hs : SubL E (E1 x0 x1)) (hI : ∀ M w, I.h M w → (I1 x0 x1).h M w) :
    Fin n E I (Exit.then (fun a w => ∃ x0' x1', C x0' x1' ∧ St n (E1 x0' x1') (I1 x0' x1') a w) Q) .normal := fun _ _ hst => ⟨x0, x1, hC, hst.sub hs hI⟩
theorem Tr.loopD2V1 {α0 α1 : Type} (K : Env) (hK : SubL E K) (F : α0 → α1 → Value → Env) (Ii : α0 → α1 → Value → Asn) (C : α0 → α1 → Prop) (μ : α0 → α1 → Nat) {c : Code} (x0s : α0) (x1s : α1) (v0s : Value) (h0 : C x0s x1s) (hs : SubL E (F x0s x1s v0s)) (hI : ∀ M w, I.h M w → (Ii x0s x1s v0s).h M w)
    (round : ∀ x0 x1 v0, C x0 x1 → Tr P n (F x0 x1 v0 ++ K) (Ii x0 x1 v0) c (Exit.then (fun a w => ∃ x0' x1' v0', (C x0' x1' ∧ μ x0' x1' < μ x0 x1) ∧ St n (F x0' x1' v0' ++ K) (Ii x0' x1' v0') a w) Q)) : Tr P n E I (.loop c) Q :=
  Tr.loopR K hK (fun y : α0 × α1 × Value => F y.1 y.2.1 y.2.2) (fun y => Ii y.1 y.2.1 y.2.2) (fun y => C y.1 y.2.1) (fun y => μ y.1 y.2.1) (x0s, x1s, v0s) h0 hs hI fun y hy =>
    Tr.post (round y.1 y.2.1 y.2.2 hy) fun e a w h => by
      cases e <;> first | exact h | (obtain ⟨x0', x1', v0', h1, h2⟩ := h; exact ⟨(x0', x1', v0'), h1, h2⟩)
theorem Fin.famD2V1 {α0 α1 : Type} {E1 : α0 → α1 → Value → Env} {I1 : α0 → α1 → Value → Asn} {C : α0 → α1 → Prop} (x0 : α0) (x1 : α1) (v0 : Value) (hC : C x0 x1) (hs : SubL E (E1 x0 x1 v0)) (hI : ∀ M w, I.h M w → (I1 x0 x1 v0).h M w) :
    Fin n E I (Exit.then (fun a w => ∃ x0' x1' v0', C x0' x1' ∧ St n (E1 x0' x1' v0') (I1 x0' x1' v0') a w) Q) .normal := fun _ _ hst => ⟨x0, x1, v0, hC, hst.sub hs hI⟩
theorem Tr.loopD2V2 {α0 α1 : Type} (K : Env) (hK : SubL E K) (F : α0 → α1 → Value → Value → Env) (Ii : α0 → α1 → Value → Value → Asn) (C : α0 → α1 → Prop) (μ : α0 → α1 → Nat) {c : Code} (x0s : α0) (x1s : α1) (v0s : Value) (v1s : Value) (h0 : C x0s x1s) (hs : SubL E (F x0s x1s v0s v1s)) (hI : ∀ M w, I.h M w → (Ii x0s x1s v0s v1s).h M w)
    (round : ∀ x0 x1 v0 v1, C x0 x1 → Tr P n (F x0 x1 v0 v1 ++ K) (Ii x0 x1 v0 v1) c (Exit.then (fun a w => ∃ x0' x1' v0' v1', (C x0' x1' ∧ μ x0' x1' < μ x0 x1) ∧ St n (F x0' x1' v0' v1' ++ K) (Ii x0' x1' v0' v1') a w) Q)) : Tr P n E I (.loop c) Q :=
  Tr.loopR K hK (fun y : α0 × α1 × Value × Value => F y.1 y.2.1 y.2.2.1 y.2.2.2) (fun y => Ii y.1 y.2.1 y.2.2.1 y.2.2.2) (fun y => C y.1 y.2.1) (fun y => μ y.1 y.2.1) (x0s, x1s, v0s, v1s) h0 hs hI fun y hy =>
    Tr.post (round y.1 y.2.1 y.2.2.1 y.2.2.2 hy) fun e a w h => by
      cases e <;> first | exact h | (obtain ⟨x0', x1', v0', v1', h1, h2⟩ := h; exact ⟨(x0', x1', v0', v1'), h1, h2⟩)
theorem Fin.famD2V2 {α0 α1 : Type} {E1 : α0 → α1 → Value → Value → Env} {I1 : α0 → α1 → Value → Value → Asn} {C : α0 → α1 → Prop} (x0 : α0) (x1 : α1) (v0 : Value) (v1 : Value) (hC : C x0 x1) (hs : SubL E (E1 x0 x1 v0 v1)) (hI : ∀ M w, I.h M w → (I1 x0 x1 v0 v1).h M w) :
    Fin n E I (Exit.then (fun a w => ∃ x0' x1' v0' v1', C x0' x1' ∧ St n (E1 x0' x1' v0' v1') (I1 x0' x1' v0' v1') a w) Q) .normal := fun _ _ hst => ⟨x0, x1, v0, v1, hC, hst.sub hs hI⟩
theorem Tr.loopD2V3 {α0 α1 : Type} (K : Env) (hK : SubL E K) (F : α0 → α1 → Value → Value → Value → Env) (Ii : α0 → α1 → Value → Value → Value → Asn) (C : α0 → α1 → Prop) (μ : α0 → α1 → Nat) {c : Code} (x0s : α0) (x1s : α1) (v0s : Value) (v1s : Value) (v2s : Value) (h0 : C x0s x1s) (hs : SubL E (F x0s x1s v0s v1s v2s)) (hI : ∀ M w, I.h M w → (Ii x0s x1s v0s v1s v2s).h M w)
    (round : ∀ x0 x1 v0 v1 v2, C x0 x1 → Tr P n (F x0 x1 v0 v1 v2 ++ K) (Ii x0 x1 v0 v1 v2) c (Exit.then (fun a w => ∃ x0' x1' v0' v1' v2', (C x0' x1' ∧ μ x0' x1' < μ x0 x1) ∧ St n (F x0' x1' v0' v1' v2' ++ K) (Ii x0' x1' v0' v1' v2') a w) Q)) : Tr P n E I (.loop c) Q :=
  Tr.loopR K hK (fun y : α0 × α1 × Value × Value × Value => F y.1 y.2.1 y.2.2.1 y.2.2.2.1 y.2.2.2.2) (fun y => Ii y.1 y.2.1 y.2.2.1 y.2.2.2.1 y.2.2.2.2) (fun y => C y.1 y.2.1) (fun y => μ y.1 y.2.1) (x0s, x1s, v0s, v1s, v2s) h0 hs hI fun y hy =>
    Tr.post (round y.1 y.2.1 y.2.2.1 y.2.2.2.1 y.2.2.2.2 hy) fun e a w h => by
      cases e <;> first | exact h | (obtain ⟨x0', x1', v0', v1', v2', h1, h2⟩ := h; exact ⟨(x0', x1', v0', v1', v2'), h1, h2⟩)
theorem Fin.famD2V3 {α0 α1 : Type} {E1 : α0 → α1 → Value → Value → Value → Env} {I1 : α0 → α1 → Value → Value → Value → Asn} {C : α0 → α1 → Prop} (x0 : α0) (x1 : α1) (v0 : Value) (v1 : Value) (v2 : Value) (hC : C x0 x1) (hs : SubL E (E1 x0 x1 v0 v1 v2)) (hI : ∀ M w, I.h M w → (I1 x0 x1 v0 v1 v2).h M w) :
    Fin n E I (Exit.then (fun a w => ∃ x0' x1' v0' v1' v2', C x0' x1' ∧ St n (E1 x0' x1' v0' v1' v2') (I1 x0' x1' v0' v1' v2') a w) Q) .normal := fun _ _ hst => ⟨x0, x1, v0, v1, v2, hC, hst.sub hs hI⟩
theorem Tr.loopD3V0 {α0 α1 α2 : Type} (K : Env) (hK : SubL E K) (F : α0 → α1 → α2 → Env) (Ii : α0 → α1 → α2 → Asn) (C : α0 → α1 → α2 → Prop) (μ : α0 → α1 → α2 → Nat) {c : Code} (x0s : α0) (x1s : α1) (x2s : α2)  (h0 : C x0s x1s x2s) (hs : SubL E (F x0s x1s x2s)) (hI : ∀ M w, I.h M w → (Ii x0s x1s x2s).h M w)
    (round : ∀ x0 x1 x2, C x0 x1 x2 → Tr P n (F x0 x1 x2 ++ K) (Ii x0 x1 x2) c (Exit.then (fun a w => ∃ x0' x1' x2', (C x0' x1' x2' ∧ μ x0' x1' x2' < μ x0 x1 x2) ∧ St n (F x0' x1' x2' ++ K) (Ii x0' x1' x2') a w) Q)) : Tr P n E I (.loop c) Q :=
  Tr.loopR K hK (fun y : α0 × α1 × α2 => F y.1 y.2.1 y.2.2) (fun y => Ii y.1 y.2.1 y.2.2) (fun y => C y.1 y.2.1 y.2.2) (fun y => μ y.1 y.2.1 y.2.2) (x0s, x1s, x2s) h0 hs hI fun y hy =>
    Tr.post (round y.1 y.2.1 y.2.2 hy) fun e a w h => by
      cases e <;> first | exact h | (obtain ⟨x0', x1', x2', h1, h2⟩ := h; exact ⟨(x0', x1', x2'), h1, h2⟩)
theorem Fin.famD3V0 {α0 α1 α2 : Type} {E1 : α0 → α1 → α2 → Env} {I1 : α0 → α1 → α2 → Asn} {C : α0 → α1 → α2 → Prop} (x0 : α0) (x1 : α1) (x2 : α2)  (hC : C x0 x1 x2) (hs : SubL E (E1 x0 x1 x2)) (hI : ∀ M w, I.h M w → (I1 x0 x1 x2).h M w) :
    Fin n E I (Exit.then (fun a w => ∃ x0' x1' x2', C x0' x1' x2' ∧ St n (E1 x0' x1' x2') (I1 x0' x1' x2') a w) Q) .normal := fun _ _ hst => ⟨x0, x1, x2, hC, hst.sub hs hI⟩
theorem Tr.loopD3V1 {α0 α1 α2 : Type} (K : Env) (hK : SubL E K) (F : α0 → α1 → α2 → Value → Env) (Ii : α0 → α1 → α2 → Value → Asn) (C : α0 → α1 → α2 → Prop) (μ : α0 → α1 → α2 → Nat) {c : Code} (x0s : α0) (x1s : α1) (x2s : α2) (v0s : Value) (h0 : C x0s x1s x2s) (hs : SubL E (F x0s x1s x2s v0s)) (hI : ∀ M w, I.h M w → (Ii x0s x1s x2s v0s).h M w)
    (round : ∀ x0 x1 x2 v0, C x0 x1 x2 → Tr P n (F x0 x1 x2 v0 ++ K) (Ii x0 x1 x2 v0) c (Exit.then (fun a w => ∃ x0' x1' x2' v0', (C x0' x1' x2' ∧ μ x0' x1' x2' < μ x0 x1 x2) ∧ St n (F x0' x1' x2' v0' ++ K) (Ii x0' x1' x2' v0') a w) Q)) : Tr P n E I (.loop c) Q :=
  Tr.loopR K hK (fun y : α0 × α1 × α2 × Value => F y.1 y.2.1 y.2.2.1 y.2.2.2) (fun y => Ii y.1 y.2.1 y.2.2.1 y.2.2.2) (fun y => C y.1 y.2.1 y.2.2.1) (fun y => μ y.1 y.2.1 y.2.2.1) (x0s, x1s, x2s, v0s) h0 hs hI fun y hy =>
    Tr.post (round y.1 y.2.1 y.2.2.1 y.2.2.2 hy) fun e a w h => by
      cases e <;> first | exact h | (obtain ⟨x0', x1', x2', v0', h1, h2⟩ := h; exact ⟨(x0', x1', x2', v0'), h1, h2⟩)
theorem Fin.famD3V1 {α0 α1 α2 : Type} {E1 : α0 → α1 → α2 → Value → Env} {I1 : α0 → α1 → α2 → Value → Asn} {C : α0 → α1 → α2 → Prop} (x0 : α0) (x1 : α1) (x2 : α2) (v0 : Value) (hC : C x0 x1 x2) (hs : SubL E (E1 x0 x1 x2 v0)) (hI : ∀ M w, I.h M w → (I1 x0 x1 x2 v0).h M w) :
    Fin n E I (Exit.then (fun a w => ∃ x0' x1' x2' v0', C x0' x1' x2' ∧ St n (E1 x0' x1' x2' v0') (I1 x0' x1' x2' v0') a w) Q) .normal := fun _ _ hst => ⟨x0, x1, x2, v0, hC, hst.sub hs hI⟩
theorem Tr.loopD3V2 {α0 α1 α2 : Type} (K : Env) (hK : SubL E K) (F : α0 → α1 → α2 → Value → Value → Env) (Ii : α0 → α1 → α2 → Value → Value → Asn) (C : α0 → α1 → α2 → Prop) (μ : α0 → α1 → α2 → Nat) {c : Code} (x0s : α0) (x1s : α1) (x2s : α2) (v0s : Value) (v1s : Value) (h0 : C x0s x1s x2s) (hs : SubL E (F x0s x1s x2s v0s v1s)) (hI : ∀ M w, I.h M w → (Ii x0s x1s x2s v0s v1s).h M w)
    (round : ∀ x0 x1 x2 v0 v1, C x0 x1 x2 → Tr P n (F x0 x1 x2 v0 v1 ++ K) (Ii x0 x1 x2 v0 v1) c (Exit.then (fun a w => ∃ x0' x1' x2' v0' v1', (C x0' x1' x2' ∧ μ x0' x1' x2' < μ x0 x1 x2) ∧ St n (F x0' x1' x2' v0' v1' ++ K) (Ii x0' x1' x2' v0' v1') a w) Q)) : Tr P n E I (.loop c) Q :=
  Tr.loopR K hK (fun y : α0 × α1 × α2 × Value × Value => F y.1 y.2.1 y.2.2.1 y.2.2.2.1 y.2.2.2.2) (fun y => Ii y.1 y.2.1 y.2.2.1 y.2.2.2.1 y.2.2.2.2) (fun y => C y.1 y.2.1 y.2.2.1) (fun y => μ y.1 y.2.1 y.2.2.1) (x0s, x1s, x2s, v0s, v1s) h0 hs hI fun y hy =>
    Tr.post (round y.1 y.2.1 y.2.2.1 y.2.2.2.1 y.2.2.2.2 hy) fun e a w h => by
      cases e <;> first | exact h | (obtain ⟨x0', x1', x2', v0', v1', h1, h2⟩ := h; exact ⟨(x0', x1', x2', v0', v1'), h1, h2⟩)
theorem Fin.famD3V2 {α0 α1 α2 : Type} {E1 : α0 → α1 → α2 → Value → Value → Env} {I1 : α0 → α1 → α2 → Value → Value → Asn} {C : α0 → α1 → α2 → Prop} (x0 : α0) (x1 : α1) (x2 : α2) (v0 : Value) (v1 : Value) (hC : C x0 x1 x2) (hs : SubL E (E1 x0 x1 x2 v0 v1)) (hI : ∀ M w, I.h M w → (I1 x0 x1 x2 v0 v1).h M w) :
    Fin n E I (Exit.then (fun a w => ∃ x0' x1' x2' v0' v1', C x0' x1' x2' ∧ St n (E1 x0' x1' x2' v0' v1') (I1 x0' x1' x2' v0' v1') a w) Q) .normal := fun _ _ hst => ⟨x0, x1, x2, v0, v1, hC, hst.sub hs hI⟩
theorem Tr.loopD3V3 {α0 α1 α2 : Type} (K : Env) (hK : SubL E K) (F : α0 → α1 → α2 → Value → Value → Value → Env) (Ii : α0 → α1 → α2 → Value → Value → Value → Asn) (C : α0 → α1 → α2 → Prop) (μ : α0 → α1 → α2 → Nat) {c : Code} (x0s : α0) (x1s : α1) (x2s : α2) (v0s : Value) (v1s : Value) (v2s : Value) (h0 : C x0s x1s x2s) (hs : SubL E (F x0s x1s x2s v0s v1s v2s)) (hI : ∀ M w, I.h M w → (Ii x0s x1s x2s v0s v1s v2s).h M w)
    (round : ∀ x0 x1 x2 v0 v1 v2, C x0 x1 x2 → Tr P n (F x0 x1 x2 v0 v1 v2 ++ K) (Ii x0 x1 x2 v0 v1 v2) c (Exit.then (fun a w => ∃ x0' x1' x2' v0' v1' v2', (C x0' x1' x2' ∧ μ x0' x1' x2' < μ x0 x1 x2) ∧ St n (F x0' x1' x2' v0' v1' v2' ++ K) (Ii x0' x1' x2' v0' v1' v2') a w) Q)) : Tr P n E I (.loop c) Q :=
  Tr.loopR K hK (fun y : α0 × α1 × α2 × Value × Value × Value => F y.1 y.2.1 y.2.2.1 y.2.2.2.1 y.2.2.2.2.1 y.2.2.2.2.2) (fun y => Ii y.1 y.2.1 y.2.2.1 y.2.2.2.1 y.2.2.2.2.1 y.2.2.2.2.2) (fun y => C y.1 y.2.1 y.2.2.1) (fun y => μ y.1 y.2.1 y.2.2.1) (x0s, x1s, x2s, v0s, v1s, v2s) h0 hs hI fun y hy =>
    Tr.post (round y.1 y.2.1 y.2.2.1 y.2.2.2.1 y.2.2.2.2.1 y.2.2.2.2.2 hy) fun e a w h => by
      cases e <;> first | exact h | (obtain ⟨x0', x1', x2', v0', v1', v2', h1, h2⟩ := h; exact ⟨(x0', x1', x2', v0', v1', v2'), h1, h2⟩)
theorem Fin.famD3V3 {α0 α1 α2 : Type} {E1 : α0 → α1 → α2 → Value → Value → Value → Env} {I1 : α0 → α1 → α2 → Value → Value → Value → Asn} {C : α0 → α1 → α2 → Prop} (x0 : α0) (x1 : α1) (x2 : α2) (v0 : Value) (v1 : Value) (v2 : Value) (hC : C x0 x1 x2) (hs : SubL E (E1 x0 x1 x2 v0 v1 v2)) (hI : ∀ M w, I.h M w → (I1 x0 x1 x2 v0 v1 v2).h M w) :
    Fin n E I (Exit.then (fun a w => ∃ x0' x1' x2' v0' v1' v2', C x0' x1' x2' ∧ St n (E1 x0' x1' x2' v0' v1' v2') (I1 x0' x1' x2' v0' v1' v2') a w) Q) .normal := fun _ _ hst => ⟨x0, x1, x2, v0, v1, v2, hC, hst.sub hs hI⟩
theorem Tr.loopD4V0 {α0 α1 α2 α3 : Type} (K : Env) (hK : SubL E K) (F : α0 → α1 → α2 → α3 → Env) (Ii : α0 → α1 → α2 → α3 → Asn) (C : α0 → α1 → α2 → α3 → Prop) (μ : α0 → α1 → α2 → α3 → Nat) {c : Code} (x0s : α0) (x1s : α1) (x2s : α2) (x3s : α3)  (h0 : C x0s x1s x2s x3s) (hs : SubL E (F x0s x1s x2s x3s)) (hI : ∀ M w, I.h M w → (Ii x0s x1s x2s x3s).h M w)
    (round : ∀ x0 x1 x2 x3, C x0 x1 x2 x3 → Tr P n (F x0 x1 x2 x3 ++ K) (Ii x0 x1 x2 x3) c (Exit.then (fun a w => ∃ x0' x1' x2' x3', (C x0' x1' x2' x3' ∧ μ x0' x1' x2' x3' < μ x0 x1 x2 x3) ∧ St n (F x0' x1' x2' x3' ++ K) (Ii x0' x1' x2' x3') a w) Q)) : Tr P n E I (.loop c) Q :=
  Tr.loopR K hK (fun y : α0 × α1 × α2 × α3 => F y.1 y.2.1 y.2.2.1 y.2.2.2) (fun y => Ii y.1 y.2.1 y.2.2.1 y.2.2.2) (fun y => C y.1 y.2.1 y.2.2.1 y.2.2.2) (fun y => μ y.1 y.2.1 y.2.2.1 y.2.2.2) (x0s, x1s, x2s, x3s) h0 hs hI fun y hy =>
    Tr.post (round y.1 y.2.1 y.2.2.1 y.2.2.2 hy) fun e a w h => by
      cases e <;> first | exact h | (obtain ⟨x0', x1', x2', x3', h1, h2⟩ := h; exact ⟨(x0', x1', x2', x3'), h1, h2⟩)
theorem Fin.famD4V0 {α0 α1 α2 α3 : Type} {E1 : α0 → α1 → α2 → α3 → Env} {I1 : α0 → α1 → α2 → α3 → Asn} {C : α0 → α1 → α2 → α3 → Prop} (x0 : α0) (x1 : α1) (x2 : α2) (x3 : α3)  (hC : C x0 x1 x2 x3) (hs : SubL E (E1 x0 x1 x2 x3)) (hI : ∀ M w, I.h M w → (I1 x0 x1 x2 x3).h M w) :
    Fin n E I (Exit.then (fun a w => ∃ x0' x1' x2' x3', C x0' x1' x2' x3' ∧ St n (E1 x0' x1' x2' x3') (I1 x0' x1' x2' x3') a w) Q) .normal := fun _ _ hst => ⟨x0, x1, x2, x3, hC, hst.sub hs hI⟩
theorem Tr.loopD4V1 {α0 α1 α2 α3 : Type} (K : Env) (hK : SubL E K) (F : α0 → α1 → α2 → α3 → Value → Env) (Ii : α0 → α1 → α2 → α3 → Value → Asn) (C : α0 → α1 → α2 → α3 → Prop) (μ : α0 → α1 → α2 → α3 → Nat) {c : Code} (x0s : α0) (x1s : α1) (x2s : α2) (x3s : α3) (v0s : Value) (h0 : C x0s x1s x2s x3s) (hs : SubL E (F x0s x1s x2s x3s v0s)) (hI : ∀ M w, I.h M w → (Ii x0s x1s x2s x3s v0s).h M w)
    (round : ∀ x0 x1 x2 x3 v0, C x0 x1 x2 x3 → Tr P n (F x0 x1 x2 x3 v0 ++ K) (Ii x0 x1 x2 x3 v0) c (Exit.then (fun a w => ∃ x0' x1' x2' x3' v0', (C x0' x1' x2' x3' ∧ μ x0' x1' x2' x3' < μ x0 x1 x2 x3) ∧ St n (F x0' x1' x2' x3' v0' ++ K) (Ii x0' x1' x2' x3' v0') a w) Q)) : Tr P n E I (.loop c) Q :=
  Tr.loopR K hK (fun y : α0 × α1 × α2 × α3 × Value => F y.1 y.2.1 y.2.2.1 y.2.2.2.1 y.2.2.2.2) (fun y => Ii y.1 y.2.1 y.2.2.1 y.2.2.2.1 y.2.2.2.2) (fun y => C y.1 y.2.1 y.2.2.1 y.2.2.2.1) (fun y => μ y.1 y.2.1 y.2.2.1 y.2.2.2.1) (x0s, x1s, x2s, x3s, v0s) h0 hs hI fun y hy =>
    Tr.post (round y.1 y.2.1 y.2.2.1 y.2.2.2.1 y.2.2.2.2 hy) fun e a w h => by
      cases e <;> first | exact h | (obtain ⟨x0', x1', x2', x3', v0', h1, h2⟩ := h; exact ⟨(x0', x1', x2', x3', v0'), h1, h2⟩)
theorem Fin.famD4V1 {α0 α1 α2 α3 : Type} {E1 : α0 → α1 → α2 → α3 → Value → Env} {I1 : α0 → α1 → α2 → α3 → Value → Asn} {C : α0 → α1 → α2 → α3 → Prop} (x0 : α0) (x1 : α1) (x2 : α2) (x3 : α3) (v0 : Value) (hC : C x0 x1 x2 x3) (hs : SubL E (E1 x0 x1 x2 x3 v0)) (hI : ∀ M w, I.h M w → (I1 x0 x1 x2 x3 v0).h M w) :
    Fin n E I (Exit.then (fun a w => ∃ x0' x1' x2' x3' v0', C x0' x1' x2' x3' ∧ St n (E1 x0' x1' x2' x3' v0') (I1 x0' x1' x2' x3' v0') a w) Q) .normal := fun _ _ hst => ⟨x0, x1, x2, x3, v0, hC, hst.sub hs hI⟩
theorem Tr.loopD4V2 {α0 α1 α2 α3 : Type} (K : Env) (hK : SubL E K) (F : α0 → α1 → α2 → α3 → Value → Value → Env) (Ii : α0 → α1 → α2 → α3 → Value → Value → Asn) (C : α0 → α1 → α2 → α3 → Prop) (μ : α0 → α1 → α2 → α3 → Nat) {c : Code} (x0s : α0) (x1s : α1) (x2s : α2) (x3s : α3) (v0s : Value) (v1s : Value) (h0 : C x0s x1s x2s x3s) (hs : SubL E (F x0s x1s x2s x3s v0s v1s)) (hI : ∀ M w, I.h M w → (Ii x0s x1s x2s x3s v0s v1s).h M w)
    (round : ∀ x0 x1 x2 x3 v0 v1, C x0 x1 x2 x3 → Tr P n (F x0 x1 x2 x3 v0 v1 ++ K) (Ii x0 x1 x2 x3 v0 v1) c (Exit.then (fun a w => ∃ x0' x1' x2' x3' v0' v1', (C x0' x1' x2' x3' ∧ μ x0' x1' x2' x3' < μ x0 x1 x2 x3) ∧ St n (F x0' x1' x2' x3' v0' v1' ++ K) (Ii x0' x1' x2' x3' v0' v1') a w) Q)) : Tr P n E I (.loop c) Q :=
  Tr.loopR K hK (fun y : α0 × α1 × α2 × α3 × Value × Value => F y.1 y.2.1 y.2.2.1 y.2.2.2.1 y.2.2.2.2.1 y.2.2.2.2.2) (fun y => Ii y.1 y.2.1 y.2.2.1 y.2.2.2.1 y.2.2.2.2.1 y.2.2.2.2.2) (fun y => C y.1 y.2.1 y.2.2.1 y.2.2.2.1) (fun y => μ y.1 y.2.1 y.2.2.1 y.2.2.2.1) (x0s, x1s, x2s, x3s, v0s, v1s) h0 hs hI fun y hy =>
    Tr.post (round y.1 y.2.1 y.2.2.1 y.2.2.2.1 y.2.2.2.2.1 y.2.2.2.2.2 hy) fun e a w h => by
      cases e <;> first | exact h | (obtain ⟨x0', x1', x2', x3', v0', v1', h1, h2⟩ := h; exact ⟨(x0', x1', x2', x3', v0', v1'), h1, h2⟩)
theorem Fin.famD4V2 {α0 α1 α2 α3 : Type} {E1 : α0 → α1 → α2 → α3 → Value → Value → Env} {I1 : α0 → α1 → α2 → α3 → Value → Value → Asn} {C : α0 → α1 → α2 → α3 → Prop} (x0 : α0) (x1 : α1) (x2 : α2) (x3 : α3) (v0 : Value) (v1 : Value) (hC : C x0 x1 x2 x3) (hs : SubL E (E1 x0 x1 x2 x3 v0 v1)) (hI : ∀ M w, I.h M w → (I1 x0 x1 x2 x3 v0 v1).h M w) :
    Fin n E I (Exit.then (fun a w => ∃ x0' x1' x2' x3' v0' v1', C x0' x1' x2' x3' ∧ St n (E1 x0' x1' x2' x3' v0' v1') (I1 x0' x1' x2' x3' v0' v1') a w) Q) .normal := fun _ _ hst => ⟨x0, x1, x2, x3, v0, v1, hC, hst.sub hs hI⟩
theorem Tr.loopD4V3 {α0 α1 α2 α3 : Type} (K : Env) (hK : SubL E K) (F : α0 → α1 → α2 → α3 → Value → Value → Value → Env) (Ii : α0 → α1 → α2 → α3 → Value → Value → Value → Asn) (C : α0 → α1 → α2 → α3 → Prop) (μ : α0 → α1 → α2 → α3 → Nat) {c : Code} (x0s : α0) (x1s : α1) (x2s : α2) (x3s : α3) (v0s : Value) (v1s : Value) (v2s : Value) (h0 : C x0s x1s x2s x3s) (hs : SubL E (F x0s x1s x2s x3s v0s v1s v2s)) (hI : ∀ M w, I.h M w → (Ii x0s x1s x2s x3s v0s v1s v2s).h M w)
    (round : ∀ x0 x1 x2 x3 v0 v1 v2, C x0 x1 x2 x3 → Tr P n (F x0 x1 x2 x3 v0 v1 v2 ++ K) (Ii x0 x1 x2 x3 v0 v1 v2) c (Exit.then (fun a w => ∃ x0' x1' x2' x3' v0' v1' v2', (C x0' x1' x2' x3' ∧ μ x0' x1' x2' x3' < μ x0 x1 x2 x3) ∧ St n (F x0' x1' x2' x3' v0' v1' v2' ++ K) (Ii x0' x1' x2' x3' v0' v1' v2') a w) Q)) : Tr P n E I (.loop c) Q :=
  Tr.loopR K hK (fun y : α0 × α1 × α2 × α3 × Value × Value × Value => F y.1 y.2.1 y.2.2.1 y.2.2.2.1 y.2.2.2.2.1 y.2.2.2.2.2.1 y.2.2.2.2.2.2) (fun y => Ii y.1 y.2.1 y.2.2.1 y.2.2.2.1 y.2.2.2.2.1 y.2.2.2.2.2.1 y.2.2.2.2.2.2) (fun y => C y.1 y.2.1 y.2.2.1 y.2.2.2.1) (fun y => μ y.1 y.2.1 y.2.2.1 y.2.2.2.1) (x0s, x1s, x2s, x3s, v0s, v1s, v2s) h0 hs hI fun y hy =>
    Tr.post (round y.1 y.2.1 y.2.2.1 y.2.2.2.1 y.2.2.2.2.1 y.2.2.2.2.2.1 y.2.2.2.2.2.2 hy) fun e a w h => by
      cases e <;> first | exact h | (obtain ⟨x0', x1', x2', x3', v0', v1', v2', h1, h2⟩ := h; exact ⟨(x0', x1', x2', x3', v0', v1', v2'), h1, h2⟩)
theorem Fin.famD4V3 {α0 α1 α2 α3 : Type} {E1 : α0 → α1 → α2 → α3 → Value → Value → Value → Env} {I1 : α0 → α1 → α2 → α3 → Value → Value → Value → Asn} {C : α0 → α1 → α2 → α3 → Prop} (x0 : α0) (x1 : α1) (x2 : α2) (x3 : α3) (v0 : Value) (v1 : Value) (v2 : Value) (hC : C x0 x1 x2 x3) (hs : SubL E (E1 x0 x1 x2 x3 v0 v1 v2)) (hI : ∀ M w, I.h M w → (I1 x0 x1 x2 x3 v0 v1 v2).h M w) :
    Fin n E I (Exit.then (fun a w => ∃ x0' x1' x2' x3' v0' v1' v2', C x0' x1' x2' x3' ∧ St n (E1 x0' x1' x2' x3' v0' v1' v2') (I1 x0' x1' x2' x3' v0' v1' v2') a w) Q) .normal := fun _ _ hst => ⟨x0, x1, x2, x3, v0, v1, v2, hC, hst.sub hs hI⟩
end

/-! ### Dice: a list of numbers and a place in it -/
structure DS where
  l : List Int
  at_ : Nat
  h : at_ ≤ l.length
  h2 : l.length ≤ 1000000000
def DS.val (s : DS) (n : Int) : Int := match s.l[s.at_]? with | some x => x % n | none => 0
def DS.adv (s : DS) : DS := if h : s.at_ < s.l.length then ⟨s.l, s.at_ + 1, h, s.h2⟩ else s
theorem DS.val_in (s : DS) {n : Int} (hn : 1 ≤ n) : 0 ≤ s.val n ∧ s.val n < n := by
  unfold DS.val
  split
  · exact ⟨Int.emod_nonneg _ (by omega), Int.emod_lt_of_pos _ (by omega)⟩
  · omega
theorem DS.val_end {s : DS} (h : s.l.length ≤ s.at_) (n : Int) : s.val n = 0 := by
  unfold DS.val; rw [List.getElem?_eq_none h]
theorem DS.adv_end {s : DS} (h : s.l.length ≤ s.at_) : s.adv = s := by
  unfold DS.adv; rw [dif_neg (by omega)]
theorem DS.val_at {s : DS} {x : Int} (h : s.l[s.at_]? = some x) (n : Int) : s.val n = x % n := by
  unfold DS.val; rw [h]
theorem DS.adv_at {s : DS} (h : s.at_ < s.l.length) : s.adv = ⟨s.l, s.at_ + 1, h, s.h2⟩ := by
  unfold DS.adv; rw [dif_pos h]
def dicesP (s : DS) : List Pr := [slice 1 (s.l.map fun n => [int n]), int ((s.at_ : Nat) : Int)]
def diceR (T : TypeId) (b : Nat) (s : DS) : Res := cellsRes true b T (dicesP s)
def diceEx (T : TypeId) (b : Nat) : Res := cellsEx true b T (fun _ : DS => True) dicesP
/-- Some number of a list. -/
def DS.of (s : DS) (l : List Int) : Int := (l[(s.val l.length).toNat]?).getD 0
theorem DS.of_mem (s : DS) {l : List Int} (h : l ≠ []) : s.of l ∈ l := by
  have h0 : 1 ≤ (l.length : Int) := by
    have := List.length_pos_iff.2 h
    omega
  have := s.val_in h0
  unfold DS.of
  rw [List.getElem?_eq_getElem (by omega)]
  exact List.getElem_mem _

section
variable {P : Program} {n : Nat} {E : Env} {M0 : Av} {w0 : World} {S : Nat → Prop} {rs : List Res}
theorem FunM.exd {f : FuncId} {args : List Pr} {res : Pr} {T : TypeId} {b : Nat} {R' : Value → Res} (h : ∀ s, FunM P f args res (diceR T b s) R') : FunM P f args res (diceEx T b) R' := by
  refine ⟨(h ⟨[], 0, by simp, by simp⟩).1, fun M0 w0 S rs M w vs hI hv => ?_⟩
  obtain ⟨s, _, hs⟩ := (hI.hold (diceEx T b) (by simp)).1
  have h2 : HpH M0 w0 S (diceR T b s :: rs) M w := HpH.swap1 (i := 0) hI rfl rfl rfl hs
  exact (h s).2 M0 w0 S rs M w vs h2 hv
theorem Tr.openD {Q : Exit → Act → World → Prop} {c : Code} (i : Nat) {T : TypeId} {b : Nat} (hi : rs[i]? = some (diceEx T b)) (k : ∀ s, Tr P n E (Hp M0 w0 S (rs.set i (diceR T b s))) c Q) : Tr P n E (Hp M0 w0 S rs) c Q :=
  Tr.openR i hi fun s _ => k s
theorem Fin.openD {Q : Exit → Act → World → Prop} {e : Exit} (i : Nat) {T : TypeId} {b : Nat} (hi : rs[i]? = some (diceEx T b)) (k : ∀ s, Fin n E (Hp M0 w0 S (rs.set i (diceR T b s))) Q e) : Fin n E (Hp M0 w0 S rs) Q e := by
  rintro a w ⟨M, h1, h2, h3, h4⟩
  have h4 : HpH M0 w0 S rs M w := h4
  obtain ⟨x, hx, hh⟩ := (h4.hold _ (List.mem_of_getElem? hi)).1
  exact k x a w ⟨M, h1, h2, h3, h4.swap1 hi rfl rfl hh⟩
theorem Fin.closeD {Q : Exit → Act → World → Prop} {e : Exit} (i : Nat) {T : TypeId} {b : Nat} (s : DS) {ps : List Pr} (hi : rs[i]? = some (cellsRes true b T ps)) (hp : ps = dicesP s) (k : Fin n E (Hp M0 w0 S (rs.set i (diceEx T b))) Q e) : Fin n E (Hp M0 w0 S rs) Q e :=
  Fin.closeR i (fun _ => True) dicesP s trivial hi hp k
theorem Tr.closeD {Q : Exit → Act → World → Prop} {c : Code} (i : Nat) {T : TypeId} {b : Nat} (s : DS) {ps : List Pr} (hi : rs[i]? = some (cellsRes true b T ps)) (hp : ps = dicesP s) (k : Tr P n E (Hp M0 w0 S (rs.set i (diceEx T b))) c Q) : Tr P n E (Hp M0 w0 S rs) c Q :=
  Tr.closeR i (fun _ => True) dicesP s trivial hi hp k

/-! ### A new pointer of a function's -/
theorem TO.opn {ops : Array Oper} {l : List Oper} {Q : Exit → Act → World → Prop} (s j : Nat) {v : Value} {f : Value → Res} (g : Nat → Res) (hs : E.lookup s = some (andIs v (Cp.ex fun b => ptr b 0))) (hi : rs[j]? = some (f v)) (hf : ∀ b, f (.pointer (some ⟨b, 0, none⟩)) = g b)
    (k : ∀ b, TO P n ops l ((s, ptr b 0) :: E) (Hp M0 w0 S (rs.set j (g b))) Q) : TO P n ops l E (Hp M0 w0 S rs) Q := by
  intro k0 hl a w hst
  obtain ⟨M, h1, h2, he, h4⟩ := hst
  obtain ⟨h5, b, h6⟩ := he s _ hs
  have hv : v = .pointer (some ⟨b, 0, none⟩) := by rw [← h5]; exact h6
  have hj : rs.set j (g b) = rs := by
    have hjl : j < rs.length := by rcases Nat.lt_or_ge j rs.length with h | h; exact h; rw [List.getElem?_eq_none h] at hi; cases hi
    rw [← hf b, ← hv]
    rw [List.getElem?_eq_getElem hjl] at hi
    simp at hi
    rw [← hi, List.set_getElem_self]
  refine k b k0 hl a w ⟨M, h1, h2, ?_, by rw [hj]; exact h4⟩
  intro t q hq
  simp only [List.lookup] at hq
  by_cases ht : t = s
  · subst ht; simp at hq; subst hq; exact h6
  · rw [show (t == s) = false by simpa using ht] at hq; exact he t q hq

/-! ### Results -/
def rvRun (r : ResultVar) (a : Act) : Sem Value := match r with | .tmp t => pure (a.tmps.getD t undef) | .cell c t => do loadVar t (← asAddr (a.tmps.getD c undef))
def RVal (P : Program) (E : Env) (rs : List Res) (r : ResultVar) (p : Pr) : Prop := ∀ (M : Av) (w : World) (a : Act), EnvOK M w E a → (∀ q ∈ rs, q.h M w) → ∃ v, (rvRun r a).run P w = .ok v w ∧ p.h M w v
theorem RVal.tmp {t : Tmp} {q p : Pr} (h : E.lookup t = some q) (hl : Pr.le q p) : RVal P E rs (.tmp t) p := fun _ _ _ he _ => ⟨_, rfl, hl _ _ _ (he _ _ h)⟩
theorem RVal.cell (i : Nat) {c : Tmp} {t T : TypeId} {b m : Nat} {new : Bool} {ps : List Pr} {p : Pr} (h : E.lookup c = some (ptr b 0)) (hi : rs[i]? = some (cellsRes new b T ps)) (ht : aggB P t = true) (hz : sizeB P t = some m) (hm : ps.length = m) (hl : Pr.le (agg ps) p) : RVal P E rs (.cell c t) p := by
  intro M w a he hr
  obtain ⟨v, h1, h2⟩ := run_cell ht hz hm (hr _ (List.mem_of_getElem? hi))
  refine ⟨v, ?_, hl _ _ _ h2⟩
  have hc : a.tmps.getD c undef = .pointer (some ⟨b, 0, none⟩) := he _ _ h
  unfold rvRun
  simp only [hc, asAddr]
  simpa [Sem.run_bind] using h1
theorem results_rv (g : Func) (a : Act) : results g a.tmps = (do let vs ← g.results.mapM (fun r => rvRun r a); pure (if h : vs.size = 1 then vs[0] else .tuple vs)) := by
  have : (fun r : ResultVar => rvRun r a) = (fun | .tmp t => pure (a.tmps.getD t undef) | .cell c t => do loadVar t (← asAddr (a.tmps.getD c undef))) := by
    funext r; cases r <;> rfl
  rw [this]; rfl
theorem results1 {g : Func} {r : ResultVar} {a : Act} {w : World} {v : Value} (hr : g.results = #[r]) (h : (rvRun r a).run P w = .ok v w) : (results g a.tmps).run P w = .ok v w := by
  rw [results_rv, hr]; simp [Sem.run_bind, h]
theorem results2 {g : Func} {r r' : ResultVar} {a : Act} {w : World} {v v' : Value} (hr : g.results = #[r, r']) (h : (rvRun r a).run P w = .ok v w) (h' : (rvRun r' a).run P w = .ok v' w) : (results g a.tmps).run P w = .ok (.tuple #[v, v']) w := by
  rw [results_rv, hr]; simp [Sem.run_bind, h, h']
theorem results3 {g : Func} {r r' r'' : ResultVar} {a : Act} {w : World} {v v' v'' : Value} (hr : g.results = #[r, r', r'']) (h : (rvRun r a).run P w = .ok v w) (h' : (rvRun r' a).run P w = .ok v' w) (h'' : (rvRun r'' a).run P w = .ok v'' w) : (results g a.tmps).run P w = .ok (.tuple #[v, v', v'']) w := by
  rw [results_rv, hr]; simp [Sem.run_bind, h, h', h'']
theorem HpH.dropPre {M : Av} {w : World} : ∀ {pre : List Res}, HpH M0 w0 S (pre ++ rs) M w → HpH M0 w0 S rs M w
  | [], h => h
  | _ :: _, h => HpH.dropPre h.drop1
variable {g : Func} {M1 : Av} {w1 : World}
theorem Fin.retX1 {r : ResultVar} {p q : Pr} (hr : g.results = #[r]) (h : RVal P E rs r q) (hl : Pr.le q p) : Fin n E (Hp M0 w0 noS rs) (bodyPost P g (Back M0 w0 p)) .ret := by
  rintro a w ⟨M, _, hd, he, hi⟩
  obtain ⟨v, hv, hp⟩ := h M w a he (fun q hq => (hi.hold q hq).1)
  obtain ⟨h1, h2⟩ := OutW.bse M0 w0 M w hi
  exact ⟨hd, v, results1 hr hv, _, rfl, p.st _ _ _ _ _ (Ext.less h1) (hl _ _ _ hp), h2⟩
theorem Fin.retX2 {r r' : ResultVar} {p q q' : Pr} (hr : g.results = #[r, r']) (h : RVal P E rs r q) (h' : RVal P E rs r' q') (hl : Pr.le (tup [q, q']) p) : Fin n E (Hp M0 w0 noS rs) (bodyPost P g (Back M0 w0 p)) .ret := by
  rintro a w ⟨M, _, hd, he, hi⟩
  obtain ⟨v, hv, hp⟩ := h M w a he (fun q hq => (hi.hold q hq).1)
  obtain ⟨v', hv', hp'⟩ := h' M w a he (fun q hq => (hi.hold q hq).1)
  obtain ⟨h1, h2⟩ := OutW.bse M0 w0 M w hi
  exact ⟨hd, _, results2 hr hv hv', _, rfl, p.st _ _ _ _ _ (Ext.less h1) (hl _ _ _ ⟨[_, _], rfl, hp, hp', trivial⟩), h2⟩
theorem Fin.retX3 {r r' r'' : ResultVar} {p q q' q'' : Pr} (hr : g.results = #[r, r', r'']) (h : RVal P E rs r q) (h' : RVal P E rs r' q') (h'' : RVal P E rs r'' q'') (hl : Pr.le (tup [q, q', q'']) p) : Fin n E (Hp M0 w0 noS rs) (bodyPost P g (Back M0 w0 p)) .ret := by
  rintro a w ⟨M, _, hd, he, hi⟩
  obtain ⟨v, hv, hp⟩ := h M w a he (fun q hq => (hi.hold q hq).1)
  obtain ⟨v', hv', hp'⟩ := h' M w a he (fun q hq => (hi.hold q hq).1)
  obtain ⟨v'', hv'', hp''⟩ := h'' M w a he (fun q hq => (hi.hold q hq).1)
  obtain ⟨h1, h2⟩ := OutW.bse M0 w0 M w hi
  exact ⟨hd, _, results3 hr hv hv' hv'', _, rfl, p.st _ _ _ _ _ (Ext.less h1) (hl _ _ _ ⟨[_, _, _], rfl, hp, hp', hp'', trivial⟩), h2⟩
theorem Fin.retY1 (pre : List Res) {r : ResultVar} {R : Res} {R' : Value → Res} {p q : Pr} (hr : g.results = #[r]) (h : RVal P E (pre ++ R :: extRes M1 w1 :: rs) r q) (hl : Pr.le q p) (hR : ∀ M w v, q.h M w v → R' v = R) :
    Fin n E (Hp M0 w0 S (pre ++ R :: extRes M1 w1 :: rs)) (bodyPost P g (BackM M0 w0 S rs M1 w1 p R')) .ret := by
  rintro a w ⟨M, _, hd, he, hi⟩
  obtain ⟨v, hv, hp⟩ := h M w a he (fun q hq => (hi.hold q hq).1)
  obtain ⟨h1, h2⟩ := outM (HpH.dropPre hi)
  exact ⟨hd, v, results1 hr hv, _, M, rfl, hl _ _ _ hp, h1, by rw [hR _ _ _ hp]; exact h2⟩
theorem Fin.retY2 (pre : List Res) {r r' : ResultVar} {R : Res} {p q q' : Pr} (hr : g.results = #[r, r']) (h : RVal P E (pre ++ R :: extRes M1 w1 :: rs) r q) (h' : RVal P E (pre ++ R :: extRes M1 w1 :: rs) r' q') (hl : Pr.le (tup [q, q']) p) :
    Fin n E (Hp M0 w0 S (pre ++ R :: extRes M1 w1 :: rs)) (bodyPost P g (BackM M0 w0 S rs M1 w1 p (fun _ => R))) .ret := by
  rintro a w ⟨M, _, hd, he, hi⟩
  obtain ⟨v, hv, hp⟩ := h M w a he (fun q hq => (hi.hold q hq).1)
  obtain ⟨v', hv', hp'⟩ := h' M w a he (fun q hq => (hi.hold q hq).1)
  obtain ⟨h1, h2⟩ := outM (HpH.dropPre hi)
  exact ⟨hd, _, results2 hr hv hv', _, M, rfl, hl _ _ _ ⟨[_, _], rfl, hp, hp', trivial⟩, h1, h2⟩
theorem Fin.retY3 (pre : List Res) {r r' r'' : ResultVar} {R : Res} {p q q' q'' : Pr} (hr : g.results = #[r, r', r'']) (h : RVal P E (pre ++ R :: extRes M1 w1 :: rs) r q) (h' : RVal P E (pre ++ R :: extRes M1 w1 :: rs) r' q') (h'' : RVal P E (pre ++ R :: extRes M1 w1 :: rs) r'' q'') (hl : Pr.le (tup [q, q', q'']) p) :
    Fin n E (Hp M0 w0 S (pre ++ R :: extRes M1 w1 :: rs)) (bodyPost P g (BackM M0 w0 S rs M1 w1 p (fun _ => R))) .ret := by
  rintro a w ⟨M, _, hd, he, hi⟩
  obtain ⟨v, hv, hp⟩ := h M w a he (fun q hq => (hi.hold q hq).1)
  obtain ⟨v', hv', hp'⟩ := h' M w a he (fun q hq => (hi.hold q hq).1)
  obtain ⟨v'', hv'', hp''⟩ := h'' M w a he (fun q hq => (hi.hold q hq).1)
  obtain ⟨h1, h2⟩ := outM (HpH.dropPre hi)
  exact ⟨hd, _, results3 hr hv hv' hv'', _, M, rfl, hl _ _ _ ⟨[_, _, _], rfl, hp, hp', hp'', trivial⟩, h1, h2⟩
theorem ex_in {α : Type} {p : α → Pr} {q : Pr} (x : α) (h : Pr.le q (p x)) : Pr.le q (Cp.ex p) := fun M w v hv => ⟨x, h M w v hv⟩
theorem fact_in {φ : Prop} {p q : Pr} (hφ : φ) (h : Pr.le q p) : Pr.le q (fact φ p) := fun M w v hv => ⟨hφ, h M w v hv⟩
end
end Cp
