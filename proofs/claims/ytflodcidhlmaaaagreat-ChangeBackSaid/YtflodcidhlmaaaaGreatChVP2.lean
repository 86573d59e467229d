/-
  Part 2 of the texts that prove this claim, merged.
-/
import Derived.Laws.MakeOwn
import Derived.Test.YtflodcidhlmaaaaGreatProg
import Derived.KernelRfl
import Derived.Test.YtflodcidhlmaaaaGreatRows
import Derived.Lib.ConvBytes
import Derived.Lib.Bytealg
import Derived.Laws.StructEq
import Derived.Laws.Externs
import Derived.Lib.AtoiErrMem
import Derived.Laws.IdiomRangeMap
import Derived.Test.YtflodcidhlmaaaaGreatChVP1
set_option linter.all false
namespace Cp
open Go Go.RowKit Go.Great

section
variable {P : Program} {n : Nat} {E : Env} {I : Asn} {Q : Exit → Act → World → Prop}
theorem Tr.loopD2V0 {α0 α1 : Type} (K : Env) (hK : SubL E K) (F : α0 → α1 → Env) (Ii : α0 → α1 → Asn) (C : α0 → α1 → Prop) (μ : α0 → α1 → Nat) {c : Code} (x0s : α0) (x1s : α1)  (h0 : C x0s x1s) (hs : SubL E (F x0s x1s)) (hI : ∀ M w, I.h M w → (Ii x0s x1s).h M w)
    (round : ∀ x0 x1, C x0 x1 → Tr P n (F x0 x1 ++ K) (Ii x0 x1) c (Exit.then (fun a w => ∃ x0' x1', (C x0' x1' ∧ μ x0' x1' < μ x0 x1) ∧ St n (F x0' x1' ++ K) (Ii x0' x1') a w) Q)) : Tr P n E I (.loop c) Q :=
  Tr.loopR K hK (fun y : α0 × α1 => F y.1 y.2) (fun y => Ii y.1 y.2) (fun y => C y.1 y.2) (fun y => μ y.1 y.2) (x0s, x1s) h0 hs hI fun y hy =>
    Tr.post (round y.1 y.2 hy) fun e a w h => by
      cases e <;> first | exact h | (obtain ⟨x0', x1', h1, h2⟩ := h; exact ⟨(x0', x1'), h1, h2⟩)
theorem Fin.famD2V0 {α0 α1 : Type} {E1 : α0 → α1 → Env} {I1 : α0 → α1 → Asn} {C : α0 → α1 → Prop} (x0 : α0) (x1 : α1)  (hC : C x0 x1) (hs : SubL E (E1 x0 x1)) (hI : ∀ M w, I.h M w → (I1 x0 x1).h M w) :
    Fin n E I (Exit.then (fun a w => ∃ x0' x1', C x0' x1' ∧ St n (E1 x0' x1') (I1 x0' x1') a w) Q) .normal := fun _ _ hst => ⟨x0, x1, hC, hst.sub hs hI⟩
theorem Tr.loopD2V1 {α0 α1 : Type} (K : Env) (hK : SubL E K) (F : α0 → α1 → Value → Env) (Ii : α0 → α1 → Value → Asn) (C : α0 → α1 → Prop) (μ : α0 → α1 → Nat) {c : Code} (x0s : α0) (x1s : α1) (v0s : Value) (h0 : C x0s x1s) (hs : SubL E (F x0s x1s v0s)) (hI : ∀ M w, I.h M w → (Ii x0s x1s v0s).h M w)
    (round : ∀ x0 x1 v0, C x0 x1 → Tr P n (F x0 x1 v0 ++ K) (Ii x0 x1 v0) c (Exit.then (fun a w => ∃ x0' x1' v0', (C x0' x1' ∧ μ x0' x1' < μ x0 x1) ∧ St n (F x0' x1' v0' ++ K) (Ii x0' x1' v0') a w) Q)) : Tr P n E I (.loop c) Q :=
  Tr.loopR K hK (fun y : α0 × α1 × Value => F y.1 y.2.1 y.2.2) (fun y => Ii y.1 y.2.1 y.2.2) (fun y => C y.1 y.2.1) (fun y => μ y.1 y.2.1) (x0s, x1s, v0s) h0 hs hI fun y hy =>
    Tr.post (round y.1 y.2.1 y.2.2 hy) fun e a w h => by
      cases e <;> first | exact h | (obtain ⟨x0', x1', v0', h1, h2⟩ := h; exact ⟨(x0', x1', v0'), h1, h2⟩)
theorem Fin.famD2V1 {α0 α1 : Type} {E1 : α0 → α1 → Value → Env} {I1 : α0 → α1 → Value → Asn} {C : α0 → α1 → Prop} (x0 : α0) (x1 : α1) (v0 : Value) (hC : C x0 x1) (hs : SubL E (E1 x0 x1 v0)) (hI : ∀ M w, I.h M w → (I1 x0 x1 v0).h M w) :
    Fin n E I (Exit.then (fun a w => ∃ x0' x1' v0', C x0' x1' ∧ St n (E1 x0' x1' v0') (I1 x0' x1' v0') a w) Q) .normal := fun _ _ hst => ⟨x0, x1, v0, hC, hst.sub hs hI⟩
theorem Tr.loopD3V0 {α0 α1 α2 : Type} (K : Env) (hK : SubL E K) (F : α0 → α1 → α2 → Env) (Ii : α0 → α1 → α2 → Asn) (C : α0 → α1 → α2 → Prop) (μ : α0 → α1 → α2 → Nat) {c : Code} (x0s : α0) (x1s : α1) (x2s : α2)  (h0 : C x0s x1s x2s) (hs : SubL E (F x0s x1s x2s)) (hI : ∀ M w, I.h M w → (Ii x0s x1s x2s).h M w)
    (round : ∀ x0 x1 x2, C x0 x1 x2 → Tr P n (F x0 x1 x2 ++ K) (Ii x0 x1 x2) c (Exit.then (fun a w => ∃ x0' x1' x2', (C x0' x1' x2' ∧ μ x0' x1' x2' < μ x0 x1 x2) ∧ St n (F x0' x1' x2' ++ K) (Ii x0' x1' x2') a w) Q)) : Tr P n E I (.loop c) Q :=
  Tr.loopR K hK (fun y : α0 × α1 × α2 => F y.1 y.2.1 y.2.2) (fun y => Ii y.1 y.2.1 y.2.2) (fun y => C y.1 y.2.1 y.2.2) (fun y => μ y.1 y.2.1 y.2.2) (x0s, x1s, x2s) h0 hs hI fun y hy =>
    Tr.post (round y.1 y.2.1 y.2.2 hy) fun e a w h => by
      cases e <;> first | exact h | (obtain ⟨x0', x1', x2', h1, h2⟩ := h; exact ⟨(x0', x1', x2'), h1, h2⟩)
theorem Fin.famD3V0 {α0 α1 α2 : Type} {E1 : α0 → α1 → α2 → Env} {I1 : α0 → α1 → α2 → Asn} {C : α0 → α1 → α2 → Prop} (x0 : α0) (x1 : α1) (x2 : α2)  (hC : C x0 x1 x2) (hs : SubL E (E1 x0 x1 x2)) (hI : ∀ M w, I.h M w → (I1 x0 x1 x2).h M w) :
    Fin n E I (Exit.then (fun a w => ∃ x0' x1' x2', C x0' x1' x2' ∧ St n (E1 x0' x1' x2') (I1 x0' x1' x2') a w) Q) .normal := fun _ _ hst => ⟨x0, x1, x2, hC, hst.sub hs hI⟩
theorem Tr.loopD3V1 {α0 α1 α2 : Type} (K : Env) (hK : SubL E K) (F : α0 → α1 → α2 → Value → Env) (Ii : α0 → α1 → α2 → Value → Asn) (C : α0 → α1 → α2 → Prop) (μ : α0 → α1 → α2 → Nat) {c : Code} (x0s : α0) (x1s : α1) (x2s : α2) (v0s : Value) (h0 : C x0s x1s x2s) (hs : SubL E (F x0s x1s x2s v0s)) (hI : ∀ M w, I.h M w → (Ii x0s x1s x2s v0s).h M w)
    (round : ∀ x0 x1 x2 v0, C x0 x1 x2 → Tr P n (F x0 x1 x2 v0 ++ K) (Ii x0 x1 x2 v0) c (Exit.then (fun a w => ∃ x0' x1' x2' v0', (C x0' x1' x2' ∧ μ x0' x1' x2' < μ x0 x1 x2) ∧ St n (F x0' x1' x2' v0' ++ K) (Ii x0' x1' x2' v0') a w) Q)) : Tr P n E I (.loop c) Q :=
  Tr.loopR K hK (fun y : α0 × α1 × α2 × Value => F y.1 y.2.1 y.2.2.1 y.2.2.2) (fun y => Ii y.1 y.2.1 y.2.2.1 y.2.2.2) (fun y => C y.1 y.2.1 y.2.2.1) (fun y => μ y.1 y.2.1 y.2.2.1) (x0s, x1s, x2s, v0s) h0 hs hI fun y hy =>
    Tr.post (round y.1 y.2.1 y.2.2.1 y.2.2.2 hy) fun e a w h => by
      cases e <;> first | exact h | (obtain ⟨x0', x1', x2', v0', h1, h2⟩ := h; exact ⟨(x0', x1', x2', v0'), h1, h2⟩)
theorem Fin.famD3V1 {α0 α1 α2 : Type} {E1 : α0 → α1 → α2 → Value → Env} {I1 : α0 → α1 → α2 → Value → Asn} {C : α0 → α1 → α2 → Prop} (x0 : α0) (x1 : α1) (x2 : α2) (v0 : Value) (hC : C x0 x1 x2) (hs : SubL E (E1 x0 x1 x2 v0)) (hI : ∀ M w, I.h M w → (I1 x0 x1 x2 v0).h M w) :
    Fin n E I (Exit.then (fun a w => ∃ x0' x1' x2' v0', C x0' x1' x2' ∧ St n (E1 x0' x1' x2' v0') (I1 x0' x1' x2' v0') a w) Q) .normal := fun _ _ hst => ⟨x0, x1, x2, v0, hC, hst.sub hs hI⟩
end

structure DS where
  l : List Int
  at_ : Nat
  h : at_ ≤ l.length
  h2 : l.length ≤ 1000000000
def DS.val (s : DS) (n : Int) : Int := match s.l[s.at_]? with | some x => x % n | none => 0
def DS.adv (s : DS) : DS := if h : s.at_ < s.l.length then ⟨s.l, s.at_ + 1, h, s.h2⟩ else s
theorem DS.val_in (s : DS) {n : Int} (hn : 1 ≤ n) : 0 ≤ s.val n ∧ s.val n < n := by
  unfold DS.val
  split
  · exact ⟨Int.emod_nonneg _ (by omega), Int.emod_lt_of_pos _ (by omega)⟩
  · omega
theorem DS.val_end {s : DS} (h : s.l.length ≤ s.at_) (n : Int) : s.val n = 0 := by
  unfold DS.val; rw [List.getElem?_eq_none h]
theorem DS.adv_end {s : DS} (h : s.l.length ≤ s.at_) : s.adv = s := by
  unfold DS.adv; rw [dif_neg (by omega)]
theorem DS.val_at {s : DS} {x : Int} (h : s.l[s.at_]? = some x) (n : Int) : s.val n = x % n := by
  unfold DS.val; rw [h]
theorem DS.adv_at {s : DS} (h : s.at_ < s.l.length) : s.adv = ⟨s.l, s.at_ + 1, h, s.h2⟩ := by
  unfold DS.adv; rw [dif_pos h]
def dicesP (s : DS) : List Pr := [slice 1 (s.l.map fun n => [int n]), int ((s.at_ : Nat) : Int)]
def diceR (T : TypeId) (b : Nat) (s : DS) : Res := cellsRes true b T (dicesP s)
def diceEx (T : TypeId) (b : Nat) : Res := cellsEx true b T (fun _ : DS => True) dicesP
/-- Some number of a list. -/
def DS.of (s : DS) (l : List Int) : Int := (l[(s.val l.length).toNat]?).getD 0
theorem DS.of_mem (s : DS) {l : List Int} (h : l ≠ []) : s.of l ∈ l := by
  have h0 : 1 ≤ (l.length : Int) := by
    have := List.length_pos_iff.2 h
    omega
  have := s.val_in h0
  unfold DS.of
  rw [List.getElem?_eq_getElem (by omega)]
  exact List.getElem_mem _

section
variable {P : Program} {n : Nat} {E : Env} {M0 : Av} {w0 : World} {S : Nat → Prop} {rs : List Res}
theorem Tr.openD {Q : Exit → Act → World → Prop} {c : Code} (i : Nat) {T : TypeId} {b : Nat} (hi : rs[i]? = some (diceEx T b)) (k : ∀ s, Tr P n E (Hp M0 w0 S (rs.set i (diceR T b s))) c Q) : Tr P n E (Hp M0 w0 S rs) c Q :=
  Tr.openR i hi fun s _ => k s
theorem Fin.openD {Q : Exit → Act → World → Prop} {e : Exit} (i : Nat) {T : TypeId} {b : Nat} (hi : rs[i]? = some (diceEx T b)) (k : ∀ s, Fin n E (Hp M0 w0 S (rs.set i (diceR T b s))) Q e) : Fin n E (Hp M0 w0 S rs) Q e := by
  rintro a w ⟨M, h1, h2, h3, h4⟩
  have h4 : HpH M0 w0 S rs M w := h4
  obtain ⟨x, hx, hh⟩ := (h4.hold _ (List.mem_of_getElem? hi)).1
  exact k x a w ⟨M, h1, h2, h3, h4.swap1 hi rfl rfl hh⟩
theorem Fin.closeD {Q : Exit → Act → World → Prop} {e : Exit} (i : Nat) {T : TypeId} {b : Nat} (s : DS) {ps : List Pr} (hi : rs[i]? = some (cellsRes true b T ps)) (hp : ps = dicesP s) (k : Fin n E (Hp M0 w0 S (rs.set i (diceEx T b))) Q e) : Fin n E (Hp M0 w0 S rs) Q e :=
  Fin.closeR i (fun _ => True) dicesP s trivial hi hp k
theorem Tr.closeD {Q : Exit → Act → World → Prop} {c : Code} (i : Nat) {T : TypeId} {b : Nat} (s : DS) {ps : List Pr} (hi : rs[i]? = some (cellsRes true b T ps)) (hp : ps = dicesP s) (k : Tr P n E (Hp M0 w0 S (rs.set i (diceEx T b))) c Q) : Tr P n E (Hp M0 w0 S rs) c Q :=
  Tr.closeR i (fun _ => True) dicesP s trivial hi hp k

theorem TO.opn {ops : Array Oper} {l : List Oper} {Q : Exit → Act → World → Prop} (s j : Nat) {v : Value} {f : Value → Res} (g : Nat → Res) (hs : E.lookup s = some (andIs v (Cp.ex fun b => ptr b 0))) (hi : rs[j]? = some (f v)) (hf : ∀ b, f (.pointer (some ⟨b, 0, none⟩)) = g b)
    (k : ∀ b, TO P n ops l ((s, ptr b 0) :: E) (Hp M0 w0 S (rs.set j (g b))) Q) : TO P n ops l E (Hp M0 w0 S rs) Q := by
  intro k0 hl a w hst
  obtain ⟨M, h1, h2, he, h4⟩ := hst
  obtain ⟨h5, b, h6⟩ := he s _ hs
  have hv : v = .pointer (some ⟨b, 0, none⟩) := by rw [← h5]; exact h6
  have hj : rs.set j (g b) = rs := by
    have hjl : j < rs.length := by rcases Nat.lt_or_ge j rs.length with h | h; exact h; rw [List.getElem?_eq_none h] at hi; cases hi
    rw [← hf b, ← hv]
    rw [List.getElem?_eq_getElem hjl] at hi
    simp at hi
    rw [← hi, List.set_getElem_self]
  refine k b k0 hl a w ⟨M, h1, h2, ?_, by rw [hj]; exact h4⟩
  intro t q hq
  simp only [List.lookup] at hq
  by_cases ht : t = s
  · subst ht; simp at hq; subst hq; exact h6
  · rw [show (t == s) = false by simpa using ht] at hq; exact he t q hq

def rvRun (r : ResultVar) (a : Act) : Sem Value := match r with | .tmp t => pure (a.tmps.getD t undef) | .cell c t => do loadVar t (← asAddr (a.tmps.getD c undef))
def RVal (P : Program) (E : Env) (rs : List Res) (r : ResultVar) (p : Pr) : Prop := ∀ (M : Av) (w : World) (a : Act), EnvOK M w E a → (∀ q ∈ rs, q.h M w) → ∃ v, (rvRun r a).run P w = .ok v w ∧ p.h M w v
theorem RVal.tmp {t : Tmp} {q p : Pr} (h : E.lookup t = some q) (hl : Pr.le q p) : RVal P E rs (.tmp t) p := fun _ _ _ he _ => ⟨_, rfl, hl _ _ _ (he _ _ h)⟩
theorem RVal.cell (i : Nat) {c : Tmp} {t T : TypeId} {b m : Nat} {new : Bool} {ps : List Pr} {p : Pr} (h : E.lookup c = some (ptr b 0)) (hi : rs[i]? = some (cellsRes new b T ps)) (ht : aggB P t = true) (hz : sizeB P t = some m) (hm : ps.length = m) (hl : Pr.le (agg ps) p) : RVal P E rs (.cell c t) p := by
  intro M w a he hr
  obtain ⟨v, h1, h2⟩ := run_cell ht hz hm (hr _ (List.mem_of_getElem? hi))
  refine ⟨v, ?_, hl _ _ _ h2⟩
  have hc : a.tmps.getD c undef = .pointer (some ⟨b, 0, none⟩) := he _ _ h
  unfold rvRun
  simp only [hc, asAddr]
  simpa [Sem.run_bind] using h1
theorem results_rv (g : Func) (a : Act) : results g a.tmps = (do let vs ← g.results.mapM (fun r => rvRun r a); pure (if h : vs.size = 1 then vs[0] else .tuple vs)) := by
  have : (fun r : ResultVar => rvRun r a) = (fun | .tmp t => pure (a.tmps.getD t undef) | .cell c t => do loadVar t (← asAddr (a.tmps.getD c undef))) := by
    funext r; cases r <;> rfl
  rw [this]; rfl
theorem results1 {g : Func} {r : ResultVar} {a : Act} {w : World} {v : Value} (hr : g.results = #[r]) (h : (rvRun r a).run P w = .ok v w) : (results g a.tmps).run P w = .ok v w := by
  rw [results_rv, hr]; simp [Sem.run_bind, h]
theorem results2 {g : Func} {r r' : ResultVar} {a : Act} {w : World} {v v' : Value} (hr : g.results = #[r, r']) (h : (rvRun r a).run P w = .ok v w) (h' : (rvRun r' a).run P w = .ok v' w) : (results g a.tmps).run P w = .ok (.tuple #[v, v']) w := by
  rw [results_rv, hr]; simp [Sem.run_bind, h, h']
theorem results3 {g : Func} {r r' r'' : ResultVar} {a : Act} {w : World} {v v' v'' : Value} (hr : g.results = #[r, r', r'']) (h : (rvRun r a).run P w = .ok v w) (h' : (rvRun r' a).run P w = .ok v' w) (h'' : (rvRun r'' a).run P w = .ok v'' w) : (results g a.tmps).run P w = .ok (.tuple #[v, v', v'']) w := by
  rw [results_rv, hr]; simp [Sem.run_bind, h, h', h'']
theorem HpH.dropPre {M : Av} {w : World} : ∀ {pre : List Res}, HpH M0 w0 S (pre ++ rs) M w → HpH M0 w0 S rs M w
  | [], h => h
  | _ :: _, h => HpH.dropPre h.drop1
variable {g : Func} {M1 : Av} {w1 : World}
theorem Fin.retX1 {r : ResultVar} {p q : Pr} (hr : g.results = #[r]) (h : RVal P E rs r q) (hl : Pr.le q p) : Fin n E (Hp M0 w0 noS rs) (bodyPost P g (Back M0 w0 p)) .ret := by
  rintro a w ⟨M, _, hd, he, hi⟩
  obtain ⟨v, hv, hp⟩ := h M w a he (fun q hq => (hi.hold q hq).1)
  obtain ⟨h1, h2⟩ := OutW.bse M0 w0 M w hi
  exact ⟨hd, v, results1 hr hv, _, rfl, p.st _ _ _ _ _ (Ext.less h1) (hl _ _ _ hp), h2⟩
theorem Fin.retX2 {r r' : ResultVar} {p q q' : Pr} (hr : g.results = #[r, r']) (h : RVal P E rs r q) (h' : RVal P E rs r' q') (hl : Pr.le (tup [q, q']) p) : Fin n E (Hp M0 w0 noS rs) (bodyPost P g (Back M0 w0 p)) .ret := by
  rintro a w ⟨M, _, hd, he, hi⟩
  obtain ⟨v, hv, hp⟩ := h M w a he (fun q hq => (hi.hold q hq).1)
  obtain ⟨v', hv', hp'⟩ := h' M w a he (fun q hq => (hi.hold q hq).1)
  obtain ⟨h1, h2⟩ := OutW.bse M0 w0 M w hi
  exact ⟨hd, _, results2 hr hv hv', _, rfl, p.st _ _ _ _ _ (Ext.less h1) (hl _ _ _ ⟨[_, _], rfl, hp, hp', trivial⟩), h2⟩
theorem Fin.retX3 {r r' r'' : ResultVar} {p q q' q'' : Pr} (hr : g.results = #[r, r', r'']) (h : RVal P E rs r q) (h' : RVal P E rs r' q') (h'' : RVal P E rs r'' q'') (hl : Pr.le (tup [q, q', q'']) p) : Fin n E (Hp M0 w0 noS rs) (bodyPost P g (Back M0 w0 p)) .ret := by
  rintro a w ⟨M, _, hd, he, hi⟩
  obtain ⟨v, hv, hp⟩ := h M w a he (fun q hq => (hi.hold q hq).1)
  obtain ⟨v', hv', hp'⟩ := h' M w a he (fun q hq => (hi.hold q hq).1)
  obtain ⟨v'', hv'', hp''⟩ := h'' M w a he (fun q hq => (hi.hold q hq).1)
  obtain ⟨h1, h2⟩ := OutW.bse M0 w0 M w hi
  exact ⟨hd, _, results3 hr hv hv' hv'', _, rfl, p.st _ _ _ _ _ (Ext.less h1) (hl _ _ _ ⟨[_, _, _], rfl, hp, hp', hp'', trivial⟩), h2⟩
theorem Fin.retY1 (pre : List Res) {r : ResultVar} {R : Res} {R' : Value → Res} {p q : Pr} (hr : g.results = #[r]) (h : RVal P E (pre ++ R :: extRes M1 w1 :: rs) r q) (hl : Pr.le q p) (hR : ∀ M w v, q.h M w v → R' v = R) :
    Fin n E (Hp M0 w0 S (pre ++ R :: extRes M1 w1 :: rs)) (bodyPost P g (BackM M0 w0 S rs M1 w1 p R')) .ret := by
  rintro a w ⟨M, _, hd, he, hi⟩
  obtain ⟨v, hv, hp⟩ := h M w a he (fun q hq => (hi.hold q hq).1)
  obtain ⟨h1, h2⟩ := outM (HpH.dropPre hi)
  exact ⟨hd, v, results1 hr hv, _, M, rfl, hl _ _ _ hp, h1, by rw [hR _ _ _ hp]; exact h2⟩
theorem ex_in {α : Type} {p : α → Pr} {q : Pr} (x : α) (h : Pr.le q (p x)) : Pr.le q (Cp.ex p) := fun M w v hv => ⟨x, h M w v hv⟩
theorem fact_in {φ : Prop} {p q : Pr} (hφ : φ) (h : Pr.le q p) : Pr.le q (fact φ p) := fun M w v hv => ⟨hφ, h M w v hv⟩
end
end Cp
namespace Cp
open Go Go.RowKit Go.Great

section
variable {P : Program} {n : Nat} {E : Env} {M0 : Av} {w0 : World} {S : Nat → Prop} {rs : List SR} {o : Oper}
theorem ef_storeS {t : TypeId} {x : Operand} {q : Tmp} {j : Nat} {new : Bool} {b off : Nat} {T : TypeId} {ps : List Pr} {p : Pr} [One p] (hg : o.guard = none) (hd : o.dst = none) (ho : o.op = .store t x (.tmp q)) (hx : VL E x (ptr b off)) (hy : E.lookup q = some p)
    (hz : sizeB P t = some 1) (hl : off + 1 ≤ ps.length) : OpEf P M0 w0 S n j (SR.c (cellsRes new b T ps)) ⟨q, fun v => cellsRes new b T (ps.take off ++ [andIs v p] ++ ps.drop (off + 1))⟩ o E any := by
  refine ⟨hg, fun M w a rs hsz he hI hj => ?_⟩
  have h1 : a.eval x = .pointer (some ⟨b, off, none⟩) := hx.ev he (by simp [ho, Op.operands])
  have hv : VL E (.tmp q) p := ⟨_, hy, Pr.le_refl _⟩
  have hp := hv.ev he (show (Operand.tmp q) ∈ o.op.operands.toList by simp [ho, Op.operands])
  obtain ⟨h2, h3⟩ := (VL.le hv (one_cellsP p)).ev he (show (Operand.tmp q) ∈ o.op.operands.toList by simp [ho, Op.operands])
  obtain ⟨⟨_, cs, h4, h5, h6⟩, _⟩ := hI.hold _ (List.mem_of_getElem? hj)
  have h5l := h5.length
  have h2l := h2.length
  have hone : (a.eval (.tmp q)).cells = #[a.eval (.tmp q)] := (One.one (p := p) M w _ hp).1
  have h2' : HL M w [andIs (a.eval (.tmp q)) p] (a.eval (.tmp q)).cells.toList := by rw [hone]; exact ⟨⟨rfl, hp⟩, trivial⟩
  have hcells : (a.eval (.tmp q)).cells.size = 1 := by rw [hone]; rfl
  have hrun : (storeCells ⟨b, off, none⟩ (a.eval (.tmp q)).cells.toList 0).run P w = .ok () (w.setRow b (cs.take off ++ (a.eval (.tmp q)).cells.toList ++ cs.drop (off + 1)).toArray) := by
    have := run_storeCells_at (P := P) b off T (a.eval (.tmp q)).cells.toList 0 cs.toArray w h4 (by simp [hcells]; omega) h3
    simpa [hcells] using this
  have hrun2 : (execOp a.eval o).run P w = .ok .skip (w.setRow b (cs.take off ++ (a.eval (.tmp q)).cells.toList ++ cs.drop (off + 1)).toArray) := by
    simp [execOp, ho, h1, Instr.storeAt, Instr.sureAddr, storeVar, run_size hz, hcells, hrun]
  rw [hrun2]
  obtain ⟨h7, h8⟩ := HpH.write (qs := ps.take off ++ [andIs (a.eval (.tmp q)) p] ++ ps.drop (off + 1)) (cs := cs.take off ++ (a.eval (.tmp q)).cells.toList ++ cs.drop (off + 1)) hI hj ((((h5.take off).app h2')).app (h5.drop (off + 1)))
    (fun c hc => by
      simp only [List.mem_append] at hc
      rcases hc with (hc | hc) | hc
      · exact h6 c (List.mem_of_mem_take hc)
      · exact h3 c hc
      · exact h6 c (List.mem_of_mem_drop hc))
  refine ⟨M, trivial, h8, ?_⟩
  have hput : SR.at_ (a.put o.dst undef) ⟨q, fun v => cellsRes new b T (ps.take off ++ [andIs v p] ++ ps.drop (off + 1))⟩ = cellsRes new b T (ps.take off ++ [andIs (a.eval (.tmp q)) p] ++ ps.drop (off + 1)) := by rw [hd]; rfl
  rw [hput]; exact h7

theorem set_at {j s : Nat} {f : Value → Res} (hR : rs[j]? = some ⟨s, f⟩) (a : Act) : (rs.set j (SR.c (f (a.tmps.getD s undef)))).map (·.at_ a) = rs.map (·.at_ a) := by
  rw [List.map_set]
  apply List.ext_getElem?
  intro i
  rw [List.getElem?_set]
  by_cases hij : j = i
  · subst hij
    rw [if_pos rfl]
    split
    · rw [List.getElem?_map, hR]; rfl
    · rename_i hge
      rw [List.getElem?_eq_none (by omega)]
  · rw [if_neg hij]
theorem FinX.open2 {Q : Exit → Act → World → Prop} (j i s : Nat) {f g : Value → Res} {p : Pr} (hR : rs[j]? = some ⟨s, f⟩) (hR' : rs[i]? = some ⟨s, g⟩) (hij : j ≠ i) (hs : E.lookup s = some p) (k : ∀ v, FinX n M0 w0 S ((s, andIs v p) :: E) ((rs.set j (SR.c (f v))).set i (SR.c (g v))) Q) : FinX n M0 w0 S E rs Q := by
  rintro a w ⟨M, h1, h2, h3, h4⟩
  refine k (a.tmps.getD s undef) a w ⟨M, h1, h2, ?_, ?_⟩
  · intro t q hq
    simp only [List.lookup] at hq
    by_cases ht : t = s
    · subst ht; simp only [beq_self_eq_true, Option.some.injEq] at hq; subst hq; exact ⟨rfl, h3 t p hs⟩
    · rw [show (t == s) = false by simpa using ht] at hq; exact h3 t q hq
  · rw [set_at (rs := rs.set j (SR.c (f (a.tmps.getD s undef)))) (j := i) (s := s) (f := g) (by rw [List.getElem?_set, if_neg hij]; exact hR') a, set_at hR a]; exact h4
end

section
variable {P : Program} {n : Nat} {E : Env} {M0 : Av} {w0 : World} {S : Nat → Prop} {rs : List Res}
theorem St.reC (j : Nat) {new : Bool} {b : Nat} {T : TypeId} {ps qs : List Pr} (hi : rs[j]? = some (cellsRes new b T ps)) (h : LeL ps qs) {a : Act} {w : World} (hs : St n E (Hp M0 w0 S rs) a w) : St n E (Hp M0 w0 S (rs.set j (cellsRes new b T qs))) a w := by
  obtain ⟨M, h1, h2, h3, h4⟩ := hs
  have h4 : HpH M0 w0 S rs M w := h4
  obtain ⟨h5, cs, h6, h7, h8⟩ := (h4.hold _ (List.mem_of_getElem? hi)).1
  exact ⟨M, h1, h2, h3, h4.swap1 hi rfl rfl ⟨h5, cs, h6, h.hl h7, h8⟩⟩
theorem Tr.reC {Q : Exit → Act → World → Prop} {c : Code} (j : Nat) {new : Bool} {b : Nat} {T : TypeId} {ps : List Pr} (qs : List Pr) (hi : rs[j]? = some (cellsRes new b T ps)) (h : LeL ps qs) (k : Tr P n E (Hp M0 w0 S (rs.set j (cellsRes new b T qs))) c Q) : Tr P n E (Hp M0 w0 S rs) c Q :=
  Tr.conv (fun _ _ hs => hs.reC j hi h) k
theorem Fin.reC {Q : Exit → Act → World → Prop} {e : Exit} (j : Nat) {new : Bool} {b : Nat} {T : TypeId} {ps : List Pr} (qs : List Pr) (hi : rs[j]? = some (cellsRes new b T ps)) (h : LeL ps qs) (k : Fin n E (Hp M0 w0 S (rs.set j (cellsRes new b T qs))) Q e) : Fin n E (Hp M0 w0 S rs) Q e :=
  Fin.conv (fun _ _ hs => hs.reC j hi h) k
end
end Cp
namespace Cp
open Go Go.RowKit Go.Great

section
variable {P : Program} {n : Nat} {E : Env} {M0 : Av} {w0 : World} {S : Nat → Prop} {rs : List Res}

theorem okp_indexSl {I : Asn} {o : Oper} {t e : TypeId} {x y : Operand} {k : IntKind} {i : Int} {len cap sz b off : Nat} (ho : o.op = .indexAddr t x y) (ht : P.underlying t = some (.slice e)) (hz : sizeB P e = some sz) (hx : VL E x (is (.slice (some ⟨b, off, none⟩) len cap))) (hy : VL E y (is (.int k i)))
    (h0 : 0 ≤ i) (hl : i < len) : OpOK P I o E (ptr b (off + i.toNat * sz)) :=
  OpOK.same fun M w a he _ => by
    have h1 : a.eval x = _ := hx.ev he (by simp [ho, Op.operands])
    have h5 : a.eval y = .int k i := hy.ev he (by simp [ho, Op.operands])
    refine ⟨_, ?_, rfl⟩
    simp [execOp, ho, h1, h5, Instr.indexAt, asIntOf, run_underlying ht, run_size hz, h0, hl, addr_add]

theorem Tr.perm {Q : Exit → Act → World → Prop} {c : Code} {rs' : List Res} (hp : rs.Perm rs') (k : Tr P n E (Hp M0 w0 S rs') c Q) : Tr P n E (Hp M0 w0 S rs) c Q :=
  Tr.conv (fun _ _ ⟨M, h1, h2, h3, h4⟩ => ⟨M, h1, h2, h3, HpH.perm hp h4⟩) k
theorem Fin.perm {Q : Exit → Act → World → Prop} {ex : Exit} {rs' : List Res} (hp : rs.Perm rs') (k : Fin n E (Hp M0 w0 S rs') Q ex) : Fin n E (Hp M0 w0 S rs) Q ex :=
  Fin.conv (fun _ _ ⟨M, h1, h2, h3, h4⟩ => ⟨M, h1, h2, h3, HpH.perm hp h4⟩) k

theorem HpH.freeze1 {b : Nat} {T : TypeId} {ps : List Pr} {M : Av} {w : World} (h4 : HpH M0 w0 S (cellsRes true b T ps :: rs) M w) : ∃ M', HpH M0 w0 S rs M' w ∧ Ext M w M' w ∧ Row M' w ⟨b, 0, none⟩ 0 ps := by
  obtain ⟨⟨hm, cs, hh, hc, hone⟩, hbb⟩ := h4.hold _ (List.mem_cons_self ..)
  obtain ⟨hlt, hnew⟩ := hbb b rfl
  have hnew : w0.heap.size ≤ b := by simpa [cellsRes] using hnew
  have he : Ext M w (fun b' o => M b' o ∧ b' ≠ b) w := Ext.less fun _ _ h => h.1
  obtain ⟨hnd1, hnd2⟩ := List.pairwise_cons.1 h4.nd
  refine ⟨fun b' o => M b' o ∧ b' ≠ b, ⟨h4.m0, fun b' o' hm' => ⟨h4.m b' o' hm', fun e => ?_⟩, h4.os, h4.tape, h4.output, h4.size, h4.block, fun b' o' hm' => h4.bd b' o' hm'.1, fun r hr => ?_, hnd2⟩, he, fun j p hp => ?_⟩
  · subst e
    have := h4.m0 _ _ hm'
    omega
  · obtain ⟨h5, h6⟩ := h4.hold r (List.mem_cons_of_mem _ hr)
    exact ⟨r.st _ _ _ _ he (fun b' hb' => ⟨rfl, fun o' hmo => ⟨hmo, fun e => hnd1 r hr b rfl (by rw [← e]; exact hb')⟩⟩) h5, h6⟩
  · obtain ⟨u, hu, hpu⟩ := hc.at_ j p hp
    refine ⟨u, ?_, fun hx => hx.2 rfl, hone u (List.mem_of_getElem? hu), p.st _ _ _ _ _ he hpu⟩
    rw [show Addr.add ⟨b, 0, none⟩ (0 + j) = ⟨b, j, none⟩ by unfold Addr.add; split <;> simp_all]
    simp [World.cell?, hh, hu]
end
end Cp
namespace Go.Proofs.YtflodcidhlmaaaaGreat
open Go Cp
theorem mixed : Tryz.prog.follows .mixedOrders = true := by kernel_rfl
theorem sz1 : sizeB Tryz.prog 1 = some 1 := by kernel_rfl
theorem z1 : zeroB Tryz.prog 1 = some [.nilFunc] := by kernel_rfl
theorem sz2 : sizeB Tryz.prog 2 = some 1 := by kernel_rfl
theorem z2 : zeroB Tryz.prog 2 = some [.int .i64 0] := by kernel_rfl
theorem sz3 : sizeB Tryz.prog 3 = some 1 := by kernel_rfl
theorem one3 : oneB Tryz.prog 3 = true := by kernel_rfl
theorem by3 : bytesB Tryz.prog 3 = some 8 := by kernel_rfl
theorem zo3 : ([.int .i64 0] : List Value).all (·.oneCell') = true := by kernel_rfl
theorem z3 : zeroB Tryz.prog 3 = some [.int .i64 0] := by kernel_rfl
theorem sz4 : sizeB Tryz.prog 4 = some 1 := by kernel_rfl
theorem one4 : oneB Tryz.prog 4 = true := by kernel_rfl
theorem sz5 : sizeB Tryz.prog 5 = some 1 := by kernel_rfl
theorem one5 : oneB Tryz.prog 5 = true := by kernel_rfl
theorem by5 : bytesB Tryz.prog 5 = some 1 := by kernel_rfl
theorem z5 : zeroB Tryz.prog 5 = some [.int .u8 0] := by kernel_rfl
theorem z6 : zeroB Tryz.prog 6 = some [.int .u8 0] := by kernel_rfl
theorem sz9 : sizeB Tryz.prog 9 = some 1 := by kernel_rfl
theorem one9 : oneB Tryz.prog 9 = true := by kernel_rfl
theorem by9 : bytesB Tryz.prog 9 = some 16 := by kernel_rfl
theorem z9 : zeroB Tryz.prog 9 = some [.string (ByteArray.mk #[])] := by kernel_rfl
theorem z12 : zeroB Tryz.prog 12 = some [.int .u64 0] := by kernel_rfl
theorem z13 : zeroB Tryz.prog 13 = some [.string (ByteArray.mk #[]), .int .u64 0] := by kernel_rfl
theorem z18 : zeroB Tryz.prog 18 = some [.pointer none] := by kernel_rfl
theorem z20 : zeroB Tryz.prog 20 = some [.nilIface] := by kernel_rfl
theorem sz22 : sizeB Tryz.prog 22 = some 1 := by kernel_rfl
theorem one22 : oneB Tryz.prog 22 = true := by kernel_rfl
theorem z22 : zeroB Tryz.prog 22 = some [.slice none 0 0] := by kernel_rfl
theorem z24 : zeroB Tryz.prog 24 = some [.nilFunc] := by kernel_rfl
theorem sz27 : sizeB Tryz.prog 27 = some 1 := by kernel_rfl
theorem one27 : oneB Tryz.prog 27 = true := by kernel_rfl
theorem sz28 : sizeB Tryz.prog 28 = some 1 := by kernel_rfl
theorem one28 : oneB Tryz.prog 28 = true := by kernel_rfl
theorem sz29 : sizeB Tryz.prog 29 = some 1 := by kernel_rfl
theorem one29 : oneB Tryz.prog 29 = true := by kernel_rfl
theorem sz31 : sizeB Tryz.prog 31 = some 3 := by kernel_rfl
theorem agg31 : aggB Tryz.prog 31 = true := by kernel_rfl
theorem zo31 : ((List.replicate 3 (.slice none 0 0)) : List Value).all (·.oneCell') = true := by kernel_rfl
theorem z31 : zeroB Tryz.prog 31 = some (List.replicate 3 (.slice none 0 0)) := by kernel_rfl
theorem fo31_0 : fieldOff Tryz.prog 31 0 = some 0 := by kernel_rfl
theorem fo31_1 : fieldOff Tryz.prog 31 1 = some 1 := by kernel_rfl
theorem fo31_2 : fieldOff Tryz.prog 31 2 = some 2 := by kernel_rfl
theorem sz33 : sizeB Tryz.prog 33 = some 1 := by kernel_rfl
theorem one33 : oneB Tryz.prog 33 = true := by kernel_rfl
theorem sz35 : sizeB Tryz.prog 35 = some 9 := by kernel_rfl
theorem agg35 : aggB Tryz.prog 35 = true := by kernel_rfl
theorem by35 : bytesB Tryz.prog 35 = some 144 := by kernel_rfl
theorem bl35 : ∀ ps, Tryz.prog.built 35 ps = Instr.fill (fun i => (#[(0, 1), (1, 1), (2, 1), (3, 1), (4, 1), (5, 1), (6, 1), (7, 1), (8, 1)] : Array (Nat × Nat))[i]?) ([.string (ByteArray.mk #[]), .int .i64 0, .int .i64 0, .slice none 0 0, .bool false, .slice none 0 0, .slice none 0 0, .slice none 0 0, .bool false] : List Value).toArray ps := by intro ps; kernel_rfl
theorem zo35 : ([.string (ByteArray.mk #[]), .int .i64 0, .int .i64 0, .slice none 0 0, .bool false, .slice none 0 0, .slice none 0 0, .slice none 0 0, .bool false] : List Value).all (·.oneCell') = true := by kernel_rfl
theorem z35 : zeroB Tryz.prog 35 = some [.string (ByteArray.mk #[]), .int .i64 0, .int .i64 0, .slice none 0 0, .bool false, .slice none 0 0, .slice none 0 0, .slice none 0 0, .bool false] := by kernel_rfl
theorem fo35_0 : fieldOff Tryz.prog 35 0 = some 0 := by kernel_rfl
theorem fo35_1 : fieldOff Tryz.prog 35 1 = some 1 := by kernel_rfl
theorem fo35_2 : fieldOff Tryz.prog 35 2 = some 2 := by kernel_rfl
theorem fo35_3 : fieldOff Tryz.prog 35 3 = some 3 := by kernel_rfl
theorem fo35_4 : fieldOff Tryz.prog 35 4 = some 4 := by kernel_rfl
theorem fo35_5 : fieldOff Tryz.prog 35 5 = some 5 := by kernel_rfl
theorem fo35_6 : fieldOff Tryz.prog 35 6 = some 6 := by kernel_rfl
theorem fo35_7 : fieldOff Tryz.prog 35 7 = some 7 := by kernel_rfl
theorem fo35_8 : fieldOff Tryz.prog 35 8 = some 8 := by kernel_rfl
theorem sz44 : sizeB Tryz.prog 44 = some 2 := by kernel_rfl
theorem agg44 : aggB Tryz.prog 44 = true := by kernel_rfl
theorem bl44 : ∀ ps, Tryz.prog.built 44 ps = Instr.fill (fun i => (#[(0, 1), (1, 1)] : Array (Nat × Nat))[i]?) ((List.replicate 2 (.int .i64 0)) : List Value).toArray ps := by intro ps; kernel_rfl
theorem zo44 : ((List.replicate 2 (.int .i64 0)) : List Value).all (·.oneCell') = true := by kernel_rfl
theorem z44 : zeroB Tryz.prog 44 = some (List.replicate 2 (.int .i64 0)) := by kernel_rfl
theorem fo44_0 : fieldOff Tryz.prog 44 0 = some 0 := by kernel_rfl
theorem fo44_1 : fieldOff Tryz.prog 44 1 = some 1 := by kernel_rfl
theorem sz45 : sizeB Tryz.prog 45 = some 1 := by kernel_rfl
theorem one45 : oneB Tryz.prog 45 = true := by kernel_rfl
theorem sz47 : sizeB Tryz.prog 47 = some 4 := by kernel_rfl
theorem agg47 : aggB Tryz.prog 47 = true := by kernel_rfl
theorem by47 : bytesB Tryz.prog 47 = some 48 := by kernel_rfl
theorem bl47 : ∀ ps, Tryz.prog.built 47 ps = Instr.fill (fun i => (#[(0, 2), (2, 1), (3, 1)] : Array (Nat × Nat))[i]?) ([.int .i64 0, .int .i64 0, .int .i64 0, .slice none 0 0] : List Value).toArray ps := by intro ps; kernel_rfl
theorem zo47 : ([.int .i64 0, .int .i64 0, .int .i64 0, .slice none 0 0] : List Value).all (·.oneCell') = true := by kernel_rfl
theorem z47 : zeroB Tryz.prog 47 = some [.int .i64 0, .int .i64 0, .int .i64 0, .slice none 0 0] := by kernel_rfl
theorem fo47_0 : fieldOff Tryz.prog 47 0 = some 0 := by kernel_rfl
theorem fo47_1 : fieldOff Tryz.prog 47 1 = some 2 := by kernel_rfl
theorem fo47_2 : fieldOff Tryz.prog 47 2 = some 3 := by kernel_rfl
theorem sz49 : sizeB Tryz.prog 49 = some 8 := by kernel_rfl
theorem agg49 : aggB Tryz.prog 49 = true := by kernel_rfl
theorem bl49 : ∀ ps, Tryz.prog.built 49 ps = Instr.fill (fun i => (#[(0, 1), (1, 1), (2, 1), (3, 1), (4, 4)] : Array (Nat × Nat))[i]?) ([.int .i64 0, .int .i64 0, .int .i64 0, .int .i64 0, .int .i64 0, .int .i64 0, .int .i64 0, .slice none 0 0] : List Value).toArray ps := by intro ps; kernel_rfl
theorem zo49 : ([.int .i64 0, .int .i64 0, .int .i64 0, .int .i64 0, .int .i64 0, .int .i64 0, .int .i64 0, .slice none 0 0] : List Value).all (·.oneCell') = true := by kernel_rfl
theorem z49 : zeroB Tryz.prog 49 = some [.int .i64 0, .int .i64 0, .int .i64 0, .int .i64 0, .int .i64 0, .int .i64 0, .int .i64 0, .slice none 0 0] := by kernel_rfl
theorem fo49_0 : fieldOff Tryz.prog 49 0 = some 0 := by kernel_rfl
theorem fo49_1 : fieldOff Tryz.prog 49 1 = some 1 := by kernel_rfl
theorem fo49_2 : fieldOff Tryz.prog 49 2 = some 2 := by kernel_rfl
theorem fo49_3 : fieldOff Tryz.prog 49 3 = some 3 := by kernel_rfl
theorem fo49_4 : fieldOff Tryz.prog 49 4 = some 4 := by kernel_rfl
theorem z54 : zeroB Tryz.prog 54 = some [.nilFunc] := by kernel_rfl
theorem one71 : oneB Tryz.prog 71 = true := by kernel_rfl
theorem bl82 : ∀ ps, Tryz.prog.built 82 ps = Instr.fill (fun i => (#[(0, 1), (1, 1)] : Array (Nat × Nat))[i]?) ([.slice none 0 0, .int .i64 0] : List Value).toArray ps := by intro ps; kernel_rfl
theorem zo82 : ([.slice none 0 0, .int .i64 0] : List Value).all (·.oneCell') = true := by kernel_rfl
theorem fo82_0 : fieldOff Tryz.prog 82 0 = some 0 := by kernel_rfl
theorem fo82_1 : fieldOff Tryz.prog 82 1 = some 1 := by kernel_rfl
theorem sz83 : sizeB Tryz.prog 83 = some 1 := by kernel_rfl
theorem one83 : oneB Tryz.prog 83 = true := by kernel_rfl
theorem sz88 : sizeB Tryz.prog 88 = some 2 := by kernel_rfl
theorem by88 : bytesB Tryz.prog 88 = some 16 := by kernel_rfl
theorem bl88 : ∀ ps, Tryz.prog.built 88 ps = Instr.fill (fun i => (#[(0, 1), (1, 1)] : Array (Nat × Nat))[i]?) ((List.replicate 2 (.int .i64 0)) : List Value).toArray ps := by intro ps; kernel_rfl
theorem zo88 : ((List.replicate 2 (.int .i64 0)) : List Value).all (·.oneCell') = true := by kernel_rfl
theorem z88 : zeroB Tryz.prog 88 = some (List.replicate 2 (.int .i64 0)) := by kernel_rfl
theorem sz89 : sizeB Tryz.prog 89 = some 1 := by kernel_rfl
theorem one89 : oneB Tryz.prog 89 = true := by kernel_rfl
theorem sz91 : sizeB Tryz.prog 91 = some 5 := by kernel_rfl
theorem agg91 : aggB Tryz.prog 91 = true := by kernel_rfl
theorem by91 : bytesB Tryz.prog 91 = some 64 := by kernel_rfl
theorem bl91 : ∀ ps, Tryz.prog.built 91 ps = Instr.fill (fun i => (#[(0, 1), (1, 1), (2, 1), (3, 1), (4, 1)] : Array (Nat × Nat))[i]?) ([.string (ByteArray.mk #[]), .int .i64 0, .int .i64 0, .slice none 0 0, .int .i64 0] : List Value).toArray ps := by intro ps; kernel_rfl
theorem zo91 : ([.string (ByteArray.mk #[]), .int .i64 0, .int .i64 0, .slice none 0 0, .int .i64 0] : List Value).all (·.oneCell') = true := by kernel_rfl
theorem z91 : zeroB Tryz.prog 91 = some [.string (ByteArray.mk #[]), .int .i64 0, .int .i64 0, .slice none 0 0, .int .i64 0] := by kernel_rfl
theorem fo91_3 : fieldOff Tryz.prog 91 3 = some 3 := by kernel_rfl
theorem fo91_4 : fieldOff Tryz.prog 91 4 = some 4 := by kernel_rfl
theorem sz106 : sizeB Tryz.prog 106 = some 12 := by kernel_rfl
theorem agg106 : aggB Tryz.prog 106 = true := by kernel_rfl
theorem bl106 : ∀ ps, Tryz.prog.built 106 ps = Instr.fill (fun i => (#[(0, 1), (1, 1), (2, 2), (4, 2), (6, 2), (8, 2), (10, 1), (11, 1)] : Array (Nat × Nat))[i]?) ([.int .i64 0, .string (ByteArray.mk #[]), .int .i64 0, .int .i64 0, .int .i64 0, .int .i64 0, .int .i64 0, .int .i64 0, .int .i64 0, .int .i64 0, .int .i64 0, .int .i64 0] : List Value).toArray ps := by intro ps; kernel_rfl
theorem zo106 : ([.int .i64 0, .string (ByteArray.mk #[]), .int .i64 0, .int .i64 0, .int .i64 0, .int .i64 0, .int .i64 0, .int .i64 0, .int .i64 0, .int .i64 0, .int .i64 0, .int .i64 0] : List Value).all (·.oneCell') = true := by kernel_rfl
theorem z106 : zeroB Tryz.prog 106 = some [.int .i64 0, .string (ByteArray.mk #[]), .int .i64 0, .int .i64 0, .int .i64 0, .int .i64 0, .int .i64 0, .int .i64 0, .int .i64 0, .int .i64 0, .int .i64 0, .int .i64 0] := by kernel_rfl
theorem fo106_0 : fieldOff Tryz.prog 106 0 = some 0 := by kernel_rfl
theorem sz124 : sizeB Tryz.prog 124 = some 2 := by kernel_rfl
theorem agg124 : aggB Tryz.prog 124 = true := by kernel_rfl
theorem bl124 : ∀ ps, Tryz.prog.built 124 ps = Instr.fill (fun i => (#[(0, 1), (1, 1)] : Array (Nat × Nat))[i]?) ((List.replicate 2 (.int .i64 0)) : List Value).toArray ps := by intro ps; kernel_rfl
theorem zo124 : ((List.replicate 2 (.int .i64 0)) : List Value).all (·.oneCell') = true := by kernel_rfl
theorem fo124_0 : fieldOff Tryz.prog 124 0 = some 0 := by kernel_rfl
theorem fo124_1 : fieldOff Tryz.prog 124 1 = some 1 := by kernel_rfl
theorem sz126 : sizeB Tryz.prog 126 = some 15 := by kernel_rfl
theorem agg126 : aggB Tryz.prog 126 = true := by kernel_rfl
theorem by126 : bytesB Tryz.prog 126 = some 152 := by kernel_rfl
theorem bl126 : ∀ ps, Tryz.prog.built 126 ps = Instr.fill (fun i => (#[(0, 1), (1, 1), (2, 1), (3, 2), (5, 1), (6, 2), (8, 1), (9, 1), (10, 1), (11, 1), (12, 1), (13, 2)] : Array (Nat × Nat))[i]?) ([.int .i64 0, .string (ByteArray.mk #[]), .string (ByteArray.mk #[]), .int .i64 0, .int .i64 0, .int .i64 0, .int .i64 0, .int .i64 0, .int .i64 0, .int .i64 0, .bool false, .int .i64 0, .slice none 0 0, .int .i64 0, .int .i64 0] : List Value).toArray ps := by intro ps; kernel_rfl
theorem zo126 : ([.int .i64 0, .string (ByteArray.mk #[]), .string (ByteArray.mk #[]), .int .i64 0, .int .i64 0, .int .i64 0, .int .i64 0, .int .i64 0, .int .i64 0, .int .i64 0, .bool false, .int .i64 0, .slice none 0 0, .int .i64 0, .int .i64 0] : List Value).all (·.oneCell') = true := by kernel_rfl
theorem z126 : zeroB Tryz.prog 126 = some [.int .i64 0, .string (ByteArray.mk #[]), .string (ByteArray.mk #[]), .int .i64 0, .int .i64 0, .int .i64 0, .int .i64 0, .int .i64 0, .int .i64 0, .int .i64 0, .bool false, .int .i64 0, .slice none 0 0, .int .i64 0, .int .i64 0] := by kernel_rfl
theorem fo126_0 : fieldOff Tryz.prog 126 0 = some 0 := by kernel_rfl
theorem fo126_1 : fieldOff Tryz.prog 126 1 = some 1 := by kernel_rfl
theorem fo126_2 : fieldOff Tryz.prog 126 2 = some 2 := by kernel_rfl
theorem fo126_3 : fieldOff Tryz.prog 126 3 = some 3 := by kernel_rfl
theorem fo126_4 : fieldOff Tryz.prog 126 4 = some 5 := by kernel_rfl
theorem fo126_5 : fieldOff Tryz.prog 126 5 = some 6 := by kernel_rfl
theorem fo126_6 : fieldOff Tryz.prog 126 6 = some 8 := by kernel_rfl
theorem fo126_7 : fieldOff Tryz.prog 126 7 = some 9 := by kernel_rfl
theorem fo126_8 : fieldOff Tryz.prog 126 8 = some 10 := by kernel_rfl
theorem fo126_9 : fieldOff Tryz.prog 126 9 = some 11 := by kernel_rfl
theorem fo126_10 : fieldOff Tryz.prog 126 10 = some 12 := by kernel_rfl
theorem fo126_11 : fieldOff Tryz.prog 126 11 = some 13 := by kernel_rfl
theorem sz134 : sizeB Tryz.prog 134 = some 3 := by kernel_rfl
theorem by134 : bytesB Tryz.prog 134 = some 24 := by kernel_rfl
theorem bl134 : ∀ ps, Tryz.prog.built 134 ps = Instr.fill (fun i => (#[(0, 2), (2, 1)] : Array (Nat × Nat))[i]?) ((List.replicate 3 (.int .i64 0)) : List Value).toArray ps := by intro ps; kernel_rfl
theorem zo134 : ((List.replicate 3 (.int .i64 0)) : List Value).all (·.oneCell') = true := by kernel_rfl
theorem z134 : zeroB Tryz.prog 134 = some (List.replicate 3 (.int .i64 0)) := by kernel_rfl
theorem fo134_1 : fieldOff Tryz.prog 134 1 = some 2 := by kernel_rfl
theorem one144 : oneB Tryz.prog 144 = true := by kernel_rfl
theorem one145 : oneB Tryz.prog 145 = true := by kernel_rfl
theorem bl147 : ∀ ps, Tryz.prog.built 147 ps = Instr.fill (fun i => (#[(0, 1), (1, 8), (9, 8)] : Array (Nat × Nat))[i]?) ([.pointer none, .int .i64 0, .int .i64 0, .int .i64 0, .int .i64 0, .int .i64 0, .int .i64 0, .int .i64 0, .slice none 0 0, .int .i64 0, .int .i64 0, .int .i64 0, .int .i64 0, .int .i64 0, .int .i64 0, .int .i64 0, .slice none 0 0] : List Value).toArray ps := by intro ps; kernel_rfl
theorem zo147 : ([.pointer none, .int .i64 0, .int .i64 0, .int .i64 0, .int .i64 0, .int .i64 0, .int .i64 0, .int .i64 0, .slice none 0 0, .int .i64 0, .int .i64 0, .int .i64 0, .int .i64 0, .int .i64 0, .int .i64 0, .int .i64 0, .slice none 0 0] : List Value).all (·.oneCell') = true := by kernel_rfl
theorem fo147_0 : fieldOff Tryz.prog 147 0 = some 0 := by kernel_rfl
theorem fo147_1 : fieldOff Tryz.prog 147 1 = some 1 := by kernel_rfl
theorem fo147_2 : fieldOff Tryz.prog 147 2 = some 9 := by kernel_rfl
theorem sz148 : sizeB Tryz.prog 148 = some 1 := by kernel_rfl
theorem one148 : oneB Tryz.prog 148 = true := by kernel_rfl
theorem sz149 : sizeB Tryz.prog 149 = some 13 := by kernel_rfl
theorem agg149 : aggB Tryz.prog 149 = true := by kernel_rfl
theorem bl149 : ∀ ps, Tryz.prog.built 149 ps = Instr.fill (fun i => some (i * 1, 1)) ((List.replicate 13 (.nilFunc)) : List Value).toArray ps := by intro ps; kernel_rfl
theorem zo149 : ((List.replicate 13 (.nilFunc)) : List Value).all (·.oneCell') = true := by kernel_rfl
theorem z149 : zeroB Tryz.prog 149 = some (List.replicate 13 (.nilFunc)) := by kernel_rfl
theorem sz157 : sizeB Tryz.prog 157 = some 2 := by kernel_rfl
theorem bl157 : ∀ ps, Tryz.prog.built 157 ps = Instr.fill (fun i => (#[(0, 1), (1, 1)] : Array (Nat × Nat))[i]?) ([.string (ByteArray.mk #[]), .int .i64 0] : List Value).toArray ps := by intro ps; kernel_rfl
theorem zo157 : ([.string (ByteArray.mk #[]), .int .i64 0] : List Value).all (·.oneCell') = true := by kernel_rfl
theorem z157 : zeroB Tryz.prog 157 = some [.string (ByteArray.mk #[]), .int .i64 0] := by kernel_rfl
theorem fo157_1 : fieldOff Tryz.prog 157 1 = some 1 := by kernel_rfl
theorem sz176 : sizeB Tryz.prog 176 = some 1 := by kernel_rfl
theorem one176 : oneB Tryz.prog 176 = true := by kernel_rfl
theorem sz193 : sizeB Tryz.prog 193 = some 1 := by kernel_rfl
theorem one193 : oneB Tryz.prog 193 = true := by kernel_rfl
theorem sz195 : sizeB Tryz.prog 195 = some 4 := by kernel_rfl
theorem agg195 : aggB Tryz.prog 195 = true := by kernel_rfl
theorem by195 : bytesB Tryz.prog 195 = some 64 := by kernel_rfl
theorem bl195 : ∀ ps, Tryz.prog.built 195 ps = Instr.fill (fun i => (#[(0, 1), (1, 1), (2, 1), (3, 1)] : Array (Nat × Nat))[i]?) ([.int .i64 0, .slice none 0 0, .bool false, .slice none 0 0] : List Value).toArray ps := by intro ps; kernel_rfl
theorem zo195 : ([.int .i64 0, .slice none 0 0, .bool false, .slice none 0 0] : List Value).all (·.oneCell') = true := by kernel_rfl
theorem z195 : zeroB Tryz.prog 195 = some [.int .i64 0, .slice none 0 0, .bool false, .slice none 0 0] := by kernel_rfl
theorem fo195_0 : fieldOff Tryz.prog 195 0 = some 0 := by kernel_rfl
theorem fo195_1 : fieldOff Tryz.prog 195 1 = some 1 := by kernel_rfl
theorem fo195_2 : fieldOff Tryz.prog 195 2 = some 2 := by kernel_rfl
theorem fo195_3 : fieldOff Tryz.prog 195 3 = some 3 := by kernel_rfl
theorem sz201 : sizeB Tryz.prog 201 = some 5 := by kernel_rfl
theorem agg201 : aggB Tryz.prog 201 = true := by kernel_rfl
theorem bl201 : ∀ ps, Tryz.prog.built 201 ps = Instr.fill (fun i => (#[(0, 1), (1, 1), (2, 1), (3, 1), (4, 1)] : Array (Nat × Nat))[i]?) ([.string (ByteArray.mk #[]), .int .i64 0, .int .i64 0, .slice none 0 0, .slice none 0 0] : List Value).toArray ps := by intro ps; kernel_rfl
theorem zo201 : ([.string (ByteArray.mk #[]), .int .i64 0, .int .i64 0, .slice none 0 0, .slice none 0 0] : List Value).all (·.oneCell') = true := by kernel_rfl
theorem z201 : zeroB Tryz.prog 201 = some [.string (ByteArray.mk #[]), .int .i64 0, .int .i64 0, .slice none 0 0, .slice none 0 0] := by kernel_rfl
theorem fo201_1 : fieldOff Tryz.prog 201 1 = some 1 := by kernel_rfl
theorem fo201_2 : fieldOff Tryz.prog 201 2 = some 2 := by kernel_rfl
theorem fo201_3 : fieldOff Tryz.prog 201 3 = some 3 := by kernel_rfl
theorem fo201_4 : fieldOff Tryz.prog 201 4 = some 4 := by kernel_rfl
theorem sz237 : sizeB Tryz.prog 237 = some 115 := by kernel_rfl
theorem agg237 : aggB Tryz.prog 237 = true := by kernel_rfl
theorem bl237 : ∀ ps, Tryz.prog.built 237 ps = Instr.fill (fun i => some (i * 5, 5)) ([.string (ByteArray.mk #[]), .int .i64 0, .int .i64 0, .slice none 0 0, .slice none 0 0, .string (ByteArray.mk #[]), .int .i64 0, .int .i64 0, .slice none 0 0, .slice none 0 0, .string (ByteArray.mk #[]), .int .i64 0, .int .i64 0, .slice none 0 0, .slice none 0 0, .string (ByteArray.mk #[]), .int .i64 0, .int .i64 0, .slice none 0 0, .slice none 0 0, .string (ByteArray.mk #[]), .int .i64 0, .int .i64 0, .slice none 0 0, .slice none 0 0, .string (ByteArray.mk #[]), .int .i64 0, .int .i64 0, .slice none 0 0, .slice none 0 0, .string (ByteArray.mk #[]), .int .i64 0, .int .i64 0, .slice none 0 0, .slice none 0 0, .string (ByteArray.mk #[]), .int .i64 0, .int .i64 0, .slice none 0 0, .slice none 0 0, .string (ByteArray.mk #[]), .int .i64 0, .int .i64 0, .slice none 0 0, .slice none 0 0, .string (ByteArray.mk #[]), .int .i64 0, .int .i64 0, .slice none 0 0, .slice none 0 0, .string (ByteArray.mk #[]), .int .i64 0, .int .i64 0, .slice none 0 0, .slice none 0 0, .string (ByteArray.mk #[]), .int .i64 0, .int .i64 0, .slice none 0 0, .slice none 0 0, .string (ByteArray.mk #[]), .int .i64 0, .int .i64 0, .slice none 0 0, .slice none 0 0, .string (ByteArray.mk #[]), .int .i64 0, .int .i64 0, .slice none 0 0, .slice none 0 0, .string (ByteArray.mk #[]), .int .i64 0, .int .i64 0, .slice none 0 0, .slice none 0 0, .string (ByteArray.mk #[]), .int .i64 0, .int .i64 0, .slice none 0 0, .slice none 0 0, .string (ByteArray.mk #[]), .int .i64 0, .int .i64 0, .slice none 0 0, .slice none 0 0, .string (ByteArray.mk #[]), .int .i64 0, .int .i64 0, .slice none 0 0, .slice none 0 0, .string (ByteArray.mk #[]), .int .i64 0, .int .i64 0, .slice none 0 0, .slice none 0 0, .string (ByteArray.mk #[]), .int .i64 0, .int .i64 0, .slice none 0 0, .slice none 0 0, .string (ByteArray.mk #[]), .int .i64 0, .int .i64 0, .slice none 0 0, .slice none 0 0, .string (ByteArray.mk #[]), .int .i64 0, .int .i64 0, .slice none 0 0, .slice none 0 0, .string (ByteArray.mk #[]), .int .i64 0, .int .i64 0, .slice none 0 0, .slice none 0 0] : List Value).toArray ps := by intro ps; kernel_rfl
theorem zo237 : ([.string (ByteArray.mk #[]), .int .i64 0, .int .i64 0, .slice none 0 0, .slice none 0 0, .string (ByteArray.mk #[]), .int .i64 0, .int .i64 0, .slice none 0 0, .slice none 0 0, .string (ByteArray.mk #[]), .int .i64 0, .int .i64 0, .slice none 0 0, .slice none 0 0, .string (ByteArray.mk #[]), .int .i64 0, .int .i64 0, .slice none 0 0, .slice none 0 0, .string (ByteArray.mk #[]), .int .i64 0, .int .i64 0, .slice none 0 0, .slice none 0 0, .string (ByteArray.mk #[]), .int .i64 0, .int .i64 0, .slice none 0 0, .slice none 0 0, .string (ByteArray.mk #[]), .int .i64 0, .int .i64 0, .slice none 0 0, .slice none 0 0, .string (ByteArray.mk #[]), .int .i64 0, .int .i64 0, .slice none 0 0, .slice none 0 0, .string (ByteArray.mk #[]), .int .i64 0, .int .i64 0, .slice none 0 0, .slice none 0 0, .string (ByteArray.mk #[]), .int .i64 0, .int .i64 0, .slice none 0 0, .slice none 0 0, .string (ByteArray.mk #[]), .int .i64 0, .int .i64 0, .slice none 0 0, .slice none 0 0, .string (ByteArray.mk #[]), .int .i64 0, .int .i64 0, .slice none 0 0, .slice none 0 0, .string (ByteArray.mk #[]), .int .i64 0, .int .i64 0, .slice none 0 0, .slice none 0 0, .string (ByteArray.mk #[]), .int .i64 0, .int .i64 0, .slice none 0 0, .slice none 0 0, .string (ByteArray.mk #[]), .int .i64 0, .int .i64 0, .slice none 0 0, .slice none 0 0, .string (ByteArray.mk #[]), .int .i64 0, .int .i64 0, .slice none 0 0, .slice none 0 0, .string (ByteArray.mk #[]), .int .i64 0, .int .i64 0, .slice none 0 0, .slice none 0 0, .string (ByteArray.mk #[]), .int .i64 0, .int .i64 0, .slice none 0 0, .slice none 0 0, .string (ByteArray.mk #[]), .int .i64 0, .int .i64 0, .slice none 0 0, .slice none 0 0, .string (ByteArray.mk #[]), .int .i64 0, .int .i64 0, .slice none 0 0, .slice none 0 0, .string (ByteArray.mk #[]), .int .i64 0, .int .i64 0, .slice none 0 0, .slice none 0 0, .string (ByteArray.mk #[]), .int .i64 0, .int .i64 0, .slice none 0 0, .slice none 0 0, .string (ByteArray.mk #[]), .int .i64 0, .int .i64 0, .slice none 0 0, .slice none 0 0] : List Value).all (·.oneCell') = true := by kernel_rfl
theorem z237 : zeroB Tryz.prog 237 = some [.string (ByteArray.mk #[]), .int .i64 0, .int .i64 0, .slice none 0 0, .slice none 0 0, .string (ByteArray.mk #[]), .int .i64 0, .int .i64 0, .slice none 0 0, .slice none 0 0, .string (ByteArray.mk #[]), .int .i64 0, .int .i64 0, .slice none 0 0, .slice none 0 0, .string (ByteArray.mk #[]), .int .i64 0, .int .i64 0, .slice none 0 0, .slice none 0 0, .string (ByteArray.mk #[]), .int .i64 0, .int .i64 0, .slice none 0 0, .slice none 0 0, .string (ByteArray.mk #[]), .int .i64 0, .int .i64 0, .slice none 0 0, .slice none 0 0, .string (ByteArray.mk #[]), .int .i64 0, .int .i64 0, .slice none 0 0, .slice none 0 0, .string (ByteArray.mk #[]), .int .i64 0, .int .i64 0, .slice none 0 0, .slice none 0 0, .string (ByteArray.mk #[]), .int .i64 0, .int .i64 0, .slice none 0 0, .slice none 0 0, .string (ByteArray.mk #[]), .int .i64 0, .int .i64 0, .slice none 0 0, .slice none 0 0, .string (ByteArray.mk #[]), .int .i64 0, .int .i64 0, .slice none 0 0, .slice none 0 0, .string (ByteArray.mk #[]), .int .i64 0, .int .i64 0, .slice none 0 0, .slice none 0 0, .string (ByteArray.mk #[]), .int .i64 0, .int .i64 0, .slice none 0 0, .slice none 0 0, .string (ByteArray.mk #[]), .int .i64 0, .int .i64 0, .slice none 0 0, .slice none 0 0, .string (ByteArray.mk #[]), .int .i64 0, .int .i64 0, .slice none 0 0, .slice none 0 0, .string (ByteArray.mk #[]), .int .i64 0, .int .i64 0, .slice none 0 0, .slice none 0 0, .string (ByteArray.mk #[]), .int .i64 0, .int .i64 0, .slice none 0 0, .slice none 0 0, .string (ByteArray.mk #[]), .int .i64 0, .int .i64 0, .slice none 0 0, .slice none 0 0, .string (ByteArray.mk #[]), .int .i64 0, .int .i64 0, .slice none 0 0, .slice none 0 0, .string (ByteArray.mk #[]), .int .i64 0, .int .i64 0, .slice none 0 0, .slice none 0 0, .string (ByteArray.mk #[]), .int .i64 0, .int .i64 0, .slice none 0 0, .slice none 0 0, .string (ByteArray.mk #[]), .int .i64 0, .int .i64 0, .slice none 0 0, .slice none 0 0, .string (ByteArray.mk #[]), .int .i64 0, .int .i64 0, .slice none 0 0, .slice none 0 0] := by kernel_rfl
theorem sz259 : sizeB Tryz.prog 259 = some 2 := by kernel_rfl
theorem agg259 : aggB Tryz.prog 259 = true := by kernel_rfl
theorem bl259 : ∀ ps, Tryz.prog.built 259 ps = Instr.fill (fun i => some (i * 1, 1)) ((List.replicate 2 (.int .i64 0)) : List Value).toArray ps := by intro ps; kernel_rfl
theorem zo259 : ((List.replicate 2 (.int .i64 0)) : List Value).all (·.oneCell') = true := by kernel_rfl
theorem z259 : zeroB Tryz.prog 259 = some (List.replicate 2 (.int .i64 0)) := by kernel_rfl
theorem bl260 : ∀ ps, Tryz.prog.built 260 ps = Instr.fill (fun i => some (i * 2, 2)) ((List.replicate 10 (.int .i64 0)) : List Value).toArray ps := by intro ps; kernel_rfl
theorem zo260 : ((List.replicate 10 (.int .i64 0)) : List Value).all (·.oneCell') = true := by kernel_rfl
end Go.Proofs.YtflodcidhlmaaaaGreat
namespace Go.Proofs.YtflodcidhlmaaaaGreat
open Go Go.RowKit Cp

abbrev ints (l : List Int) : Pr := slice 1 (l.map fun n => [int n])

/-- The index of the first that p takes, -1 for none. -/
def idx {β : Type} (p : β → Bool) (l : List β) : Int := match l.findIdx? p with | some i => i | none => -1
theorem idx_found {β : Type} {p : β → Bool} {l : List β} {k : Nat} {x : β} (hx : l[k]? = some x) (hp : p x = true) (h : ∀ j y, j < k → l[j]? = some y → p y = false) : (k : Int) = idx p l := by
  have : l.findIdx? p = some k := by
    rw [List.findIdx?_eq_some_iff_getElem]
    have hk : k < l.length := by rcases Nat.lt_or_ge k l.length with h | h; exact h; rw [List.getElem?_eq_none h] at hx; cases hx
    rw [List.getElem?_eq_getElem hk] at hx
    simp only [Option.some.injEq] at hx
    refine ⟨hk, by rw [hx]; exact hp, fun j hj => ?_⟩
    simpa using h j _ hj (List.getElem?_eq_getElem (by omega))
  unfold idx; rw [this]
theorem idx_none {β : Type} {p : β → Bool} {l : List β} (h : ∀ j y, j < l.length → l[j]? = some y → p y = false) : (-1 : Int) = idx p l := by
  have : l.findIdx? p = none := by
    rw [List.findIdx?_eq_none_iff]
    intro x hx
    obtain ⟨j, hj, rfl⟩ := List.mem_iff_getElem.1 hx
    exact h j _ hj (List.getElem?_eq_getElem hj)
  unfold idx; rw [this]
theorem idx_any {β : Type} (p : β → Bool) (l : List β) : decide (idx p l ≥ 0) = l.any p := by
  unfold idx
  cases h : l.findIdx? p with
  | none => rw [List.findIdx?_eq_none_iff] at h; simp; intro x hx; simpa using h x hx
  | some i =>
    rw [List.findIdx?_eq_some_iff_getElem] at h
    obtain ⟨h1, h2, _⟩ := h
    simp
    exact ⟨_, List.getElem_mem h1, h2⟩
theorem step_no {β : Type} {p : β → Bool} {l : List β} {k : Nat} {x : β} (hx : l[k]? = some x) (hp : p x = false) (h : ∀ j y, j < k → l[j]? = some y → p y = false) : ∀ j y, j < k + 1 → l[j]? = some y → p y = false := by
  intro j y hj hy
  by_cases hjk : j = k
  · subst hjk; rw [hx] at hy; cases hy; exact hp
  · exact h j y (by omega) hy

set_option maxRecDepth 20000 in
theorem w_IndexFuncI {l : List Int} {p : Int → Bool}  : Fun Tryz.prog 135 [ints l, clo Tryz.prog (fun x : Int => [int x]) (fun x => bool (p x))] (int (idx p l)) := by
 refine Fun.of Tryz.func135 rfl rfl (by exact Nat.le_of_ble_eq_true rfl) fun M0 w0 => ?_
 refine Tr.lenm 0 rfl fun hlm_0 => (Tr.seq (Tr.reg0 (cm rfl (Ch.nil (Fin.go (Tr.seq (Tr.seq (Tr.reg0 (cm rfl (co rfl (ok_lenm rfl Tryz.underlying22 (vl rfl)) (cm rfl (Ch.nil (Fin.go (Tr.block ?_))))))))))))))
 refine Tr.loopw [(0, _), (1, _), (7, _)] (kk3 rfl) (fun k : Nat => [(8, int ((k : Nat) : Int))]) (fun k : Nat => k ≤ (l).length ∧ (∀ j y, j < k → l[j]? = some y → p y = false)) (fun k : Nat => (l).length - k) 0 (⟨Nat.zero_le _, fun j y hj => absurd hj (by omega)⟩) ⟨ke rfl, trivial⟩ ?_
 rintro k ⟨hle_k, hinv_k⟩
 refine Tr.seq (Tr.reg0 (co rfl (ki rfl rfl rfl rfl) (Ch.nil (Fin.go (Tr.seq ?_)))))
 refine Tr.cn rfl ?_ ?_ <;> intro h1 q1
 have hk_k : k < (l).length := lt_of_dec h1
 obtain ⟨x, hx_k⟩ := at_ hk_k
 refine Tr.skip (Fin.go (Tr.seq (Tr.block (Tr.seq (Tr.reg0 (cm rfl (cm rfl (Ch.nil (Fin.go (Tr.seq (Tr.reg0 (cm rfl (cm rfl ?_)))))))))))))
 refine cm rfl (co rfl (ok_indexAddr rfl Tryz.underlying22 sz3 (vl rfl) (vl rfl) (by omega) (by exact row_at (by assumption))) ?_)
 refine co rfl (kl1 rfl one3 rfl) (co rfl (ok_callc x rfl (vl rfl) ⟨ke rfl, trivial⟩) (Ch.nil (Fin.go ?_)))
 refine Tr.cn rfl ?_ ?_ <;> intro h2 q2
 refine Tr.seq (Tr.reg0 (cm rfl (cm rfl (Ch.nil (Fin.go (wk1 4 rfl (Tr.ret (Fin.block_ret (Fin.then_ret (Fin.then_ret (Fin.block_ret (Fin.then_ret (Fin.ret1 rfl (OutW.bse _ _) rfl ?_)))))))))))))
 · exact int_eq (idx_found hx_k (by assumption) hinv_k)
 refine Tr.skip (Fin.block (Fin.go (Tr.reg0 (cad rfl rfl rfl rfl (by omega) (cm rfl (Ch.nil (Fin.fam_same (k + 1) ⟨⟨hk_k, step_no hx_k (by assumption) hinv_k⟩, by omega⟩ ⟨⟨_, rfl, int_succ k⟩, ke rfl, ke rfl, ke rfl, trivial⟩)))))))
 have he_k : k = (l).length := by have := ge_of_dec h1; omega
 subst he_k
 refine Tr.exit (Fin.then_exit (Fin.then_exit (Fin.block_here (Fin.go (Tr.seq (Tr.reg0 (cm rfl (Ch.nil (Fin.go (Tr.ret (Fin.ret1 rfl (OutW.bse _ _) rfl ?_)))))))))))
 · exact int_eq (idx_none hinv_k)
set_option maxRecDepth 20000 in
theorem w_ContainsFuncI {l : List Int} {p : Int → Bool}  : Fun Tryz.prog 93 [ints l, clo Tryz.prog (fun x : Int => [int x]) (fun x => bool (p x))] (bool (l.any p)) := by
 refine Fun.of Tryz.func93 rfl rfl (by exact Nat.le_of_ble_eq_true rfl) fun M0 w0 => ?_
 refine Tr.seq (Tr.reg0 (cm rfl (Ch.nil (Fin.go (Tr.seq (Tr.reg0 (cm rfl (cm rfl (co rfl (ok_call rfl (w_IndexFuncI) ⟨ke rfl, ke rfl, trivial⟩) (co rfl (ki rfl rfl rfl rfl) (cm rfl (Ch.nil (Fin.go (Tr.ret ?_))))))))))))))
 refine Fin.ret1 rfl (OutW.bse _ _) rfl ?_
 · exact bool_eq (idx_any p l)
set_option maxRecDepth 20000 in
theorem w_IndexI {l : List Int} {v : Int}  : Fun Tryz.prog 169 [ints l, int v] (int (idx (fun x => v == x) l)) := by
 refine Fun.of Tryz.func169 rfl rfl (by exact Nat.le_of_ble_eq_true rfl) fun M0 w0 => ?_
 refine Tr.lenm 0 rfl fun hlm_0 => (Tr.seq (Tr.reg0 (cm rfl (Ch.nil (Fin.go (Tr.seq (Tr.seq (Tr.reg0 (cm rfl (co rfl (ok_lenm rfl Tryz.underlying22 (vl rfl)) (cm rfl (Ch.nil (Fin.go (Tr.block ?_))))))))))))))
 refine Tr.loopw [(0, _), (1, _), (7, _)] (kk3 rfl) (fun k : Nat => [(8, int ((k : Nat) : Int))]) (fun k : Nat => k ≤ (l).length ∧ (∀ j y, j < k → l[j]? = some y → (v == y) = false)) (fun k : Nat => (l).length - k) 0 (⟨Nat.zero_le _, fun j y hj => absurd hj (by omega)⟩) ⟨ke rfl, trivial⟩ ?_
 rintro k ⟨hle_k, hinv_k⟩
 refine Tr.seq (Tr.reg0 (co rfl (ki rfl rfl rfl rfl) (Ch.nil (Fin.go (Tr.seq ?_)))))
 refine Tr.cn rfl ?_ ?_ <;> intro h1 q1
 have hk_k : k < (l).length := lt_of_dec h1
 obtain ⟨x, hx_k⟩ := at_ hk_k
 refine Tr.skip (Fin.go (Tr.seq (Tr.block (Tr.seq (Tr.reg0 (cm rfl (cm rfl (Ch.nil (Fin.go (Tr.seq (Tr.reg0 (cm rfl (cm rfl ?_)))))))))))))
 refine cm rfl (co rfl (ok_indexAddr rfl Tryz.underlying22 sz3 (vl rfl) (vl rfl) (by omega) (by exact row_at (by assumption))) ?_)
 refine co rfl (kl1 rfl one3 rfl) (co rfl (ki rfl rfl rfl rfl) (Ch.nil (Fin.go ?_)))
 refine Tr.cn rfl ?_ ?_ <;> intro h2 q2
 refine Tr.seq (Tr.reg0 (cm rfl (cm rfl (Ch.nil (Fin.go (wk1 4 rfl (Tr.ret (Fin.block_ret (Fin.then_ret (Fin.then_ret (Fin.block_ret (Fin.then_ret (Fin.ret1 rfl (OutW.bse _ _) rfl ?_)))))))))))))
 · exact int_eq (idx_found (p := fun x => v == x) hx_k (by assumption) hinv_k)
 refine Tr.skip (Fin.block (Fin.go (Tr.reg0 (cad rfl rfl rfl rfl (by omega) (cm rfl (Ch.nil (Fin.fam_same (k + 1) ⟨⟨hk_k, step_no (p := fun x => v == x) hx_k (by assumption) hinv_k⟩, by omega⟩ ⟨⟨_, rfl, int_succ k⟩, ke rfl, ke rfl, ke rfl, trivial⟩)))))))
 have he_k : k = (l).length := by have := ge_of_dec h1; omega
 subst he_k
 refine Tr.exit (Fin.then_exit (Fin.then_exit (Fin.block_here (Fin.go (Tr.seq (Tr.reg0 (cm rfl (Ch.nil (Fin.go (Tr.ret (Fin.ret1 rfl (OutW.bse _ _) rfl ?_)))))))))))
 · exact int_eq (idx_none hinv_k)
set_option maxRecDepth 20000 in
theorem w_ContainsI {l : List Int} {v : Int}  : Fun Tryz.prog 131 [ints l, int v] (bool (l.any fun x => v == x)) := by
 refine Fun.of Tryz.func131 rfl rfl (by exact Nat.le_of_ble_eq_true rfl) fun M0 w0 => ?_
 refine Tr.seq (Tr.reg0 (cm rfl (Ch.nil (Fin.go (Tr.seq (Tr.reg0 (cm rfl (cm rfl (co rfl (ok_call rfl (w_IndexI) ⟨ke rfl, ke rfl, trivial⟩) (co rfl (ki rfl rfl rfl rfl) (cm rfl (Ch.nil (Fin.go (Tr.ret ?_))))))))))))))
 refine Fin.ret1 rfl (OutW.bse _ _) rfl ?_
 · exact bool_eq (idx_any _ l)
end Go.Proofs.YtflodcidhlmaaaaGreat
namespace Go.Proofs.YtflodcidhlmaaaaGreat
open Go Go.RowKit Cp Go.ChangeShapes Go.WideShapes Go.ChangeAt

theorem own0 : ownKnob Tryz.prog.godebug = none := by kernel_rfl
theorem laidOut0 : laidOutB Tryz.prog = true := by kernel_rfl
theorem i64_in {n : Int} (h : (Lit.int .i64 n).wf = true) : InI n := by
  simp only [Lit.wf, Bool.and_eq_true, decide_eq_true_eq] at h
  have h1 : IntKind.i64.min = -9223372036854775808 := rfl
  have h2 : IntKind.i64.max = 9223372036854775807 := rfl
  unfold InI; omega
theorem opens_ints {P : Program} {t e : TypeId} (ht : P.underlying t = some (.slice e)) (he : P.underlying e = some (.int .i64)) (hc : P.cellsOf e = 1) : Opens P t (fun l : List Int => l.length ≤ maxLen ∧ ∀ n ∈ l, InI n) (fun l => [ints l]) :=
  (opens_slice ht hc (opens_int he)).map id (fun _ h => ⟨h.2, fun n hn => i64_in (h.1 n hn)⟩) (fun _ => rfl)

end Go.Proofs.YtflodcidhlmaaaaGreat
namespace Go.Proofs.YtflodcidhlmaaaaGreat
open Go Go.RowKit Cp

abbrev diceS (b : Nat) (s : DS) : Res := diceR 82 b s
theorem mod_pos (n : Int) {k : Int} (hk : 1 ≤ k) : (n.tmod k + k).tmod k = n % k := by
  have h1 : -k < n.tmod k := by have := Int.lt_tmod_of_pos n (b := k) (by omega); omega
  rw [Int.tmod_eq_emod_of_nonneg (by omega), Int.tmod_def, show n - k * n.tdiv k + k = n + k * (1 - n.tdiv k) by rw [Int.mul_sub]; omega, Int.add_mul_emod_self_left]
theorem mod_in (n : Int) {k : Int} (hk : 1 ≤ k) : -k < n.tmod k ∧ n.tmod k < k := by
  have h1 := Int.lt_tmod_of_pos n (b := k) (by omega)
  have h2 := Int.tmod_lt_of_pos n (b := k) (by omega)
  omega

set_option maxRecDepth 20000 in
theorem w_Light {l : List Int}  : Fun Tryz.prog 10 [ints l] (bool (decide (l.length ≤ 400))) := by
 refine Fun.of Tryz.func10 rfl rfl (by exact Nat.le_of_ble_eq_true rfl) fun M0 w0 => ?_
 refine Tr.seq (Tr.reg0 (cm rfl (Ch.nil (Fin.go (Tr.seq (Tr.reg0 (cm rfl (co rfl (ok_lenm rfl Tryz.underlying22 (vl rfl)) (co rfl (ki rfl rfl rfl rfl) (cm rfl (Ch.nil (Fin.go (Tr.ret (Fin.ret1 rfl (OutW.bse _ _) rfl ?_))))))))))))))
 · refine bool_eq ?_; simp_all; omega
set_option maxRecDepth 20000 in
theorem w_Mod {n k : Int} (hk : 1 ≤ k) (hk2 : k ≤ 1000000000) : Fun Tryz.prog 82 [int n, int k] (int (n % k)) := by
 refine Fun.of Tryz.func82 rfl rfl (by exact Nat.le_of_ble_eq_true rfl) fun M0 w0 => ?_
 have hm := mod_in n hk
 have hp := mod_pos n hk
 refine Tr.seq (Tr.reg0 (cm rfl (Ch.nil (Fin.go (Tr.seq (Tr.seq (Tr.reg0 (cm rfl (co rfl (ki rfl rfl rfl rfl) (Ch.nil (Fin.go ?_)))))))))))
 refine Tr.cn rfl ?_ ?_ <;> intro h1 q1
 refine Tr.seq (Tr.reg0 (cm rfl (Ch.nil (Fin.go (Tr.ret (Fin.then_ret (Fin.ret1 rfl (OutW.bse _ _) rfl ?_)))))))
 · exfalso; omega
 refine Tr.skip (Fin.go (Tr.seq (Tr.reg0 (cm rfl (cm rfl (co rfl (ok_rem rfl (vl rfl) (vl rfl) (by omega)) (cm rfl (cad rfl rfl rfl rfl (by omega) (cm rfl (co rfl (ok_rem rfl (vl rfl) (vl rfl) (by omega)) (cm rfl (Ch.nil (Fin.go (Tr.ret ?_))))))))))))))
 refine Fin.ret1 rfl (OutW.bse _ _) rfl ?_
 · refine int_eq ?_; exact hp
set_option maxRecDepth 20000 in
theorem w_DNext {b : Nat} {s : DS} {n : Int} (hn : 1 ≤ n) (hn2 : n ≤ 1000000000) : FunM Tryz.prog 36 [ptr b 0, int n] (int (s.val n)) (diceS b s) (fun _ => diceS b s.adv) := by
 refine FunM.of Tryz.func36 rfl rfl (by exact Nat.le_of_ble_eq_true rfl) fun M0 w0 S rs M1 w1 => ?_
 have hs := s.h
 have hs2 := s.h2
 refine Tr.seq (Tr.reg0 (cm rfl (Ch.nil (Fin.go (Tr.seq (Tr.seq (Tr.reg1 mixed (by kernel_rfl) (cm rfl (co rfl (okp_nilCheck rfl (vl rfl)) (co rfl (okp_fieldAddr rfl fo82_1 (vl rfl)) (co rfl (ok_rd 0 rfl (rd_load1 rfl one3 (vl rfl) rfl)) (cm rfl (co rfl (okp_nilCheck rfl (vl rfl)) ?_)))))))))))))
 refine co rfl (okp_fieldAddr rfl fo82_0 (vl rfl)) (co rfl (ok_rd 0 rfl (rd_load1 rfl one22 (vl rfl) rfl)) (co rfl (ok_lenm rfl Tryz.underlying22 (vl rfl)) (co rfl (ki rfl rfl rfl rfl) (Ch.nil (Fin.go ?_)))))
 refine Tr.cn rfl ?_ ?_ <;> intro h1 q1
 refine Tr.seq (Tr.reg0 (cm rfl (Ch.nil (Fin.go (Tr.ret (Fin.then_ret ?_))))))
 rw [DS.adv_end (s := s) (by omega)]
 refine Fin.retY1 [] rfl (RVal.tmp rfl (Pr.le_refl _)) ?_ (fun _ _ _ _ => rfl)
 · refine int_eq ?_; exact (DS.val_end (by omega) n).symm
 have hlt : s.at_ < s.l.length := by omega
 obtain ⟨x, hx⟩ := at_ hlt
 refine Tr.skip (Fin.go (Tr.seq (Tr.regT (tm rfl (tp rfl (okp_nilCheck rfl (vl rfl)) (tp rfl (okp_fieldAddr rfl fo82_1 (vl rfl)) (TO.rd 0 rfl rfl rfl (by decide) (rd_load1 rfl one3 (vl rfl) rfl) ?_)))))))
 refine tp rfl (ok_add rfl (vl rfl) (vl rfl) ?hin) ?_; case hin => unfold InI; omega
 refine tp rfl (okp_nilCheck rfl (vl rfl)) (tp rfl (okp_fieldAddr rfl fo82_1 (vl rfl)) (TO.ef0 0 rfl rfl (ef_store rfl rfl (vl rfl) (VL.le (vl rfl) (one_cellsP _)) sz3 rfl (by exact Nat.le_of_ble_eq_true rfl) rfl) (TO.nil (Fin.go (wk2 0 1 rfl (Tr.seq (Tr.reg1 mixed (by kernel_rfl) (cm rfl (co rfl (okp_nilCheck rfl (vl rfl)) (co rfl (okp_fieldAddr rfl fo82_0 (vl rfl)) (co rfl (ok_rd 0 rfl (rd_load1 rfl one22 (vl rfl) rfl)) (cm rfl (co rfl (okp_nilCheck rfl (vl rfl)) ?_)))))))))))))
 refine co rfl (okp_fieldAddr rfl fo82_1 (vl rfl)) (co rfl (ok_rd 0 rfl (rd_load1 rfl one3 (vl rfl) rfl)) (csu rfl rfl rfl rfl (by omega) ?_))
 refine co rfl (ok_indexAddr rfl Tryz.underlying22 sz3 (vl rfl) (vl rfl) (by omega) (by rw [show ((s.at_ : Nat) : Int) + 1 - 1 = ((s.at_ : Nat) : Int) by omega]; exact row_at hx)) ?_
 refine co rfl (kl1 rfl one3 rfl) (cm rfl (co rfl (ok_call rfl (w_Mod (by omega) (by omega)) ⟨ke rfl, ke rfl, trivial⟩) (cm rfl (Ch.nil (Fin.go (wk1 4 rfl (Tr.ret ?_)))))))
 rw [DS.adv_at hlt]
 refine Fin.retY1 [] rfl (RVal.tmp rfl (Pr.le_refl _)) ?_ (fun _ _ _ _ => rfl)
 · refine int_eq ?_; exact (DS.val_at hx n).symm
set_option maxRecDepth 20000 in
theorem w_DOf {b : Nat} {s : DS} {l : List Int} (hl : l ≠ []) (hl2 : l.length ≤ 1000000000) : FunM Tryz.prog 42 [ptr b 0, ints l] (int (s.of l)) (diceS b s) (fun _ => diceS b s.adv) := by
 refine FunM.of Tryz.func42 rfl rfl (by exact Nat.le_of_ble_eq_true rfl) fun M0 w0 S rs M1 w1 => ?_
 have hl0 : 1 ≤ (l.length : Int) := by have := List.length_pos_iff.2 hl; omega
 have hv := s.val_in hl0
 obtain ⟨x, hx⟩ := at_ (l := l) (k := (s.val l.length).toNat) (by omega)
 refine Tr.seq (Tr.reg0 (cm rfl (Ch.nil (Fin.go (Tr.seq (Tr.regT (tm rfl (tm rfl (tm rfl (tp rfl (ok_lenm rfl Tryz.underlying22 (vl rfl)) (TO.efc 0 rfl rfl (by decide) (ef_callc rfl rfl (by decide) rfl (w_DNext (by omega) (by omega)) ⟨ke rfl, ke rfl, trivial⟩) (tp rfl (ok_indexAddr rfl Tryz.underlying22 sz3 (vl rfl) (vl rfl) (by omega) (row_atI hx)) (tp rfl (kl1 rfl one3 rfl) ?_)))))))))))))
 refine tm rfl (TO.nil (Fin.go (Tr.ret (Fin.retY1 [] rfl (RVal.tmp rfl (Pr.le_refl _)) ?_ (fun _ _ _ _ => rfl)))))
 · refine int_eq ?_; unfold DS.of; rw [hx]; rfl
set_option maxRecDepth 20000 in
theorem w_DOne {b : Nat} {s : DS} {n : Int} (hn : 1 ≤ n) (hn2 : n ≤ 1000000000) : FunM Tryz.prog 41 [ptr b 0, int n] (bool (s.val n == n - 1)) (diceS b s) (fun _ => diceS b s.adv) := by
 refine FunM.of Tryz.func41 rfl rfl (by exact Nat.le_of_ble_eq_true rfl) fun M0 w0 S rs M1 w1 => ?_
 refine Tr.seq (Tr.reg0 (cm rfl (Ch.nil (Fin.go (Tr.seq (Tr.regT (tm rfl (tm rfl (TO.efc 0 rfl rfl (by decide) (ef_callc rfl rfl (by decide) rfl (w_DNext (by omega) (by omega)) ⟨ke rfl, ke rfl, trivial⟩) (tm rfl ?_))))))))))
 refine tp rfl (ok_sub rfl (vl rfl) (vl rfl) ?hin) ?_; case hin => unfold InI; omega
 refine tp rfl (ki rfl rfl rfl rfl) (tm rfl (TO.nil (Fin.go (Tr.ret (Fin.retY1 [] rfl (RVal.tmp rfl (Pr.le_refl _)) ?_ (fun _ _ _ _ => rfl))))))
 · exact Pr.le_refl _
/-- New dice. -/
def newDice (l : List Int) (hl : l.length ≤ 1000000000) (v : Value) : Res := match v with | .pointer (some a) => diceR 82 a.block ⟨l, 0, Nat.zero_le _, hl⟩ | _ => noRes

set_option maxRecDepth 20000 in
theorem w_Roll {l : List Int} (hl : l.length ≤ 1000000000) : FunM Tryz.prog 12 [ints l] (ex fun b => ptr b 0) (noRes) (newDice l hl) := by
 refine FunM.of Tryz.func12 rfl rfl (by exact Nat.le_of_ble_eq_true rfl) fun M0 w0 S rs M1 w1 => ?_
 refine Tr.seq (Tr.reg0 (cm rfl (Ch.nil (Fin.go (Tr.seq (Tr.regT (tm rfl (tp rfl (ok_build (rows := [(0, [_])]) rfl bl82 zo82 ⟨⟨rfl, (VL.le (vl rfl) (one_cellsP _))⟩, trivial⟩ rfl) ?_))))))))
 refine TO.boxm rfl rfl (by decide) rfl (VL.le (vl rfl) (agg_cellsP _)) (fun b1 => ?_)
 refine tm rfl (TO.nil (Fin.go (Tr.ret (Fin.drop 1 ?_))))
 refine Fin.retY1 [] rfl (RVal.tmp rfl (Pr.le_refl _)) ?_ (by rintro _ _ _ rfl; rfl)
 · exact ex_in b1 (Pr.le_refl _)
end Go.Proofs.YtflodcidhlmaaaaGreat
namespace Cp
open Go Go.RowKit Go.Great

section
variable {P : Program} {n : Nat} {E : Env} {M0 : Av} {w0 : World} {S : Nat → Prop} {rs : List Res} {o : Oper}

/-- A slice of m elements. -/
def lens (m : Nat) : Pr where
  h _ _ v := ∃ a c, v = .slice a m c
  st _M _w _M' _w' _v _ h := h
instance one_lens (m : Nat) : One (lens m) := ⟨by rintro M w v ⟨a, c, rfl⟩; exact ⟨rfl, rfl⟩⟩
/-- The elements of this slice are ours, and what lies behind them. -/
def mutRes (e : TypeId) (sz : Nat) (rows : List (List Pr)) (v : Value) : Res where
  blk := match v with | .slice (some a) _ _ => some a.block | _ => none
  new := true
  h M w := ∃ (b cap : Nat) (spare : List Value), v = .slice (some ⟨b, 0, none⟩) rows.length cap ∧ rows.length ≤ cap ∧ cap ≤ maxLen ∧ spare.length = (cap - rows.length) * sz ∧ (cellsRes true b e (rows.flatten ++ spare.map is)).h M w
  st M w M' w' he hk h := by
    obtain ⟨b, cap, spare, rfl, h1, h2, h3, h4⟩ := h
    exact ⟨b, cap, spare, rfl, h1, h2, h3, (cellsRes true b e _).st _ _ _ _ he hk h4⟩

theorem flat_at {sz : Nat} : ∀ {rows : List (List Pr)} {i j : Nat} {row : List Pr}, (∀ r ∈ rows, r.length = sz) → rows[i]? = some row → j < sz → rows.flatten[i * sz + j]? = row[j]?
  | [], _, _, _, _, h, _ => by simp at h
  | a :: l, 0, j, row, hl, h, hj => by
    simp at h; subst h
    have := hl a (by simp)
    rw [List.flatten_cons, Nat.zero_mul, Nat.zero_add, List.getElem?_append_left (by omega)]
  | a :: l, i + 1, j, row, hl, h, hj => by
    have h1 := hl a (by simp)
    rw [List.flatten_cons, Nat.succ_mul, List.getElem?_append_right (by omega), h1, show i * sz + sz + j - sz = i * sz + j by omega]
    exact flat_at (fun r hr => hl r (List.mem_cons_of_mem _ hr)) (by simpa using h) hj
theorem flat_len {sz : Nat} : ∀ {rows : List (List Pr)}, (∀ r ∈ rows, r.length = sz) → rows.flatten.length = rows.length * sz
  | [], _ => by simp
  | a :: l, h => by
    rw [List.flatten_cons, List.length_append, flat_len (fun r hr => h r (List.mem_cons_of_mem _ hr)), h a (by simp), List.length_cons, Nat.succ_mul]; omega
theorem hl_of {M : Av} {w : World} : ∀ {ps : List Pr} {vs : List Value}, vs.length = ps.length → (∀ (k : Nat) p, ps[k]? = some p → ∃ u, vs[k]? = some u ∧ p.h M w u) → HL M w ps vs
  | [], [], _, _ => trivial
  | [], _ :: _, h, _ => by simp at h
  | _ :: _, [], h, _ => by simp at h
  | p :: ps, v :: vs, h, hk => by
    refine ⟨?_, hl_of (by simpa using h) fun k q hq => by simpa using hk (k + 1) q (by simpa using hq)⟩
    obtain ⟨u, hu, hp⟩ := hk 0 p rfl
    simp at hu; subst hu; exact hp
theorem Flat.hl {M : Av} {w : World} {sz : Nat} {rows : List (List Pr)} {news : List Value} (hsz : 0 < sz) (h : Flat M w sz rows news) : HL M w rows.flatten news := by
  have hl : ∀ r ∈ rows, r.length = sz := fun r hr => by obtain ⟨i, hi⟩ := List.mem_iff_getElem?.1 hr; exact (h.2.2 i r hi).1
  refine hl_of (by rw [h.1, flat_len hl]) fun k p hk => ?_
  have hkl : k < rows.length * sz := by rw [← flat_len hl]; rcases Nat.lt_or_ge k rows.flatten.length with h | h; exact h; rw [List.getElem?_eq_none h] at hk; cases hk
  have hi : k / sz < rows.length := Nat.div_lt_of_lt_mul (by rw [Nat.mul_comm]; exact hkl)
  have hj : k % sz < sz := Nat.mod_lt _ hsz
  have he : k / sz * sz + k % sz = k := by rw [Nat.mul_comm]; exact Nat.div_add_mod k sz
  have hr := List.getElem?_eq_getElem hi
  rw [← he, flat_at hl hr hj] at hk
  obtain ⟨u, hu, hp⟩ := (h.2.2 _ _ hr).2 _ p hk
  exact ⟨u, by rw [← he]; exact hu, hp⟩
theorem HL.flat {M : Av} {w : World} {sz : Nat} {rows : List (List Pr)} {qs : List Pr} {cs : List Value} (hl : ∀ r ∈ rows, r.length = sz) (h : HL M w (rows.flatten ++ qs) cs) (h1 : ∀ c ∈ cs, c.oneCell' = true) : Flat M w sz rows (cs.take (rows.length * sz)) := by
  have hfl := flat_len hl
  have hlen := h.length
  refine ⟨by rw [List.length_take, hlen, List.length_append, hfl]; omega, fun u hu => h1 u (List.mem_of_mem_take hu), fun i row hi => ?_⟩
  have hrl := hl row (List.mem_of_getElem? hi)
  refine ⟨hrl, fun j p hp => ?_⟩
  have hjl : j < sz := by rw [← hrl]; rcases Nat.lt_or_ge j row.length with h | h; exact h; rw [List.getElem?_eq_none h] at hp; cases hp
  have hil : i < rows.length := by rcases Nat.lt_or_ge i rows.length with h | h; exact h; rw [List.getElem?_eq_none h] at hi; cases hi
  have hlt : i * sz + j < rows.length * sz := by have : (i + 1) * sz ≤ rows.length * sz := Nat.mul_le_mul_right sz hil; rw [Nat.add_mul] at this; omega
  obtain ⟨u, hu, hh⟩ := h.at_ (i * sz + j) p (by rw [List.getElem?_append_left (by rw [hfl]; exact hlt), flat_at hl hi hjl]; exact hp)
  exact ⟨u, by rw [List.getElem?_take, if_pos hlt]; exact hu, hh⟩
theorem zeroCells_one {zs : List Value} {z : Array Value} {k : Nat} (hz : z.toList = zs) (h1 : zs.all (·.oneCell') = true) : ∀ c ∈ (Builtin.zeroCells z k).toList, c.oneCell' = true := by
  intro c hc
  simp only [Builtin.zeroCells, Array.toList_map, Array.toList_range, List.mem_map, List.mem_range] at hc
  obtain ⟨i, hi, rfl⟩ := hc
  have hpos : 0 < z.size := by rcases Nat.eq_zero_or_pos z.size with h | h; rw [h] at hi; simp at hi; exact h
  have hm : i % z.size < z.size := Nat.mod_lt _ hpos
  rw [getElem!_pos z _ hm]
  exact List.all_eq_true.1 h1 _ (by rw [← hz]; simp)

/-- append onto nothing: a new block, ours. -/
theorem app_new {M : Av} {w : World} {t ty e : TypeId} {sz bytes : Nat} {zs : List Value} {rows : List (List Pr)} {u : Value} {j : Nat} (ht : P.underlying t = some (.slice e)) (hz : sizeB P e = some sz) (hby : bytesB P e = some bytes) (hze : zeroB P e = some zs) (hzl : zs.length = sz) (hone : zs.all (·.oneCell') = true) (hsz : 0 < sz)
    (h : HpH M0 w0 S rs M w) (hj : rs[j]? = some noRes) (hu : (slice sz rows).h M w u) (hpos : 0 < rows.length) (hmax : rows.length ≤ maxLen) (hfit : rows.length * bytes ≤ 140737488355328) :
    ∃ v' w' M', (Builtin.append_ #[t, t] ty #[.slice none 0 0, u]).run P w = .ok v' w' ∧ (lens rows.length).h M' w' v' ∧ Ext M w M' w' ∧ HpH M0 w0 S (rs.set j (mutRes e sz rows v')) M' w' := by
  unfold sizeB at hz
  unfold bytesB at hby
  unfold zeroB at hze
  cases hi : P.info? e with
  | none => rw [hi] at hz; cases hz
  | some i =>
    rw [hi] at hz hby hze
    simp only [Option.map_some, Option.some.injEq, Option.map_eq_some_iff] at hz hby hze
    obtain ⟨z, hzz, hze⟩ := hze
    have hzc : z.cells.size = sz := by rw [← hzl, ← hze]; simp
    obtain ⟨A', c', rfl, hmc, hcm', hA', hrows'⟩ := hu
    have hu0 : (slice sz rows).h M w (.slice A' rows.length c') := ⟨A', c', rfl, hmc, hcm', hA', hrows'⟩
    obtain ⟨ad', rfl⟩ : ∃ ad', A' = some ad' := by
      obtain ⟨_, b, hb, _⟩ := hrows' 0 _ (List.getElem?_eq_getElem hpos)
      exact ⟨b, hb⟩
    obtain ⟨news, hfl, hcell⟩ := slice_flat hsz hu0
    have hrun := run_append_nil (P := P) w t ty e i z ht hi hzz ad' rows.length c' news (by rw [hz]; exact hfl.1) (fun k u hk => (hcell k u hk).1) hpos (by unfold maxLen at hmax; omega) (by rw [hby]; omega)
    generalize hcap : grownCap w rows.length 0 e = cap at hrun
    have hge : rows.length ≤ cap := by rw [← hcap]; exact grownCap_ge _ _ _ _
    have hle : cap ≤ maxLen := by rw [← hcap]; exact grownCap_le_maxLen _ _ _ _ hmax
    generalize hzc' : Builtin.zeroCells z.cells (cap - rows.length) = zc at hrun
    have hzs : zc.size = (cap - rows.length) * sz := by rw [← hzc', size_zeroCells, hzc]
    have hzo : ∀ c ∈ zc.toList, c.oneCell' = true := by rw [← hzc']; exact zeroCells_one hze hone
    have hb : Below w.heap.size w (w.drew.alloc (.cells (news.toArray ++ zc) e)) := ((Below.refl _ _).drew).alloc (Nat.le_refl _) _
    have h2 := Ext.below (M := M) hb
    have hext : Ext M w (fun b o => M b o ∨ b = w.heap.size) (w.drew.alloc (.cells (news.toArray ++ zc) e)) := by
      refine ⟨h2.size, fun a v hc hm => ⟨fun hx => ?_, (h2.keep a v hc hm).2⟩, fun b o ho hp hm => ⟨fun hx => ?_, (h2.obj b o ho hp hm).2⟩⟩
      · rcases hx with hx | hx
        · exact hm hx
        · have := cell_lt hc; omega
      · rcases hx with hx | hx
        · exact hm hx
        · subst hx; simp at ho
    have hs1 : (w.drew.alloc (.cells (news.toArray ++ zc) e)).heap.size = w.heap.size + 1 := by simp
    refine ⟨_, _, fun b o => M b o ∨ b = w.heap.size, hrun, ⟨_, _, rfl⟩, hext, ?_⟩
    refine h.replace hj hext hb.os hb.tape hb.output (fun k hk _ => hb.block k hk) rfl (fun b o hm _ => .inl hm) (fun b o hx => ?_) ?_ rfl (fun b hbk => ?_)
    · rcases hx with hx | hx
      · have := h.bd _ _ hx; omega
      · omega
    · refine ⟨w.heap.size, cap, zc.toList, rfl, hge, hle, by simpa using hzs, fun o => .inr rfl, news ++ zc.toList, ?_, ?_, ?_⟩
      · have hh : (w.drew.alloc (.cells (news.toArray ++ zc) e)).heap[w.heap.size]? = some (.cells (news.toArray ++ zc) e (0, 0)) := heap_alloc_new w.drew _
        rw [hh]; simp
      · exact ((hfl.st hext).hl hsz).app (hl_is _ _ _)
      · intro c hc
        rcases List.mem_append.1 hc with hc | hc
        · exact hfl.2.1 c hc
        · exact hzo c hc
    · have hbk' : some w.heap.size = some b := hbk
      injection hbk' with e1
      subst e1
      exact ⟨by rw [hs1]; omega, .inr (Nat.le_refl _)⟩
/-- Where it lies. -/
theorem St.openM {e : TypeId} {sz : Nat} {rows : List (List Pr)} {v : Value} (j : Nat) (hj : rs[j]? = some (mutRes e sz rows v)) {a : Act} {w : World} (h : St n E (Hp M0 w0 S rs) a w) :
    ∃ (b cap : Nat) (spare : List Value), v = .slice (some ⟨b, 0, none⟩) rows.length cap ∧ rows.length ≤ cap ∧ cap ≤ maxLen ∧ spare.length = (cap - rows.length) * sz ∧ St n E (Hp M0 w0 S (rs.set j (cellsRes true b e (rows.flatten ++ spare.map is)))) a w := by
  obtain ⟨M, h1, h2, h3, h4⟩ := h
  have h4 : HpH M0 w0 S rs M w := h4
  obtain ⟨b, cap, spare, rfl, h5, h6, h7, h8⟩ := (h4.hold _ (List.mem_of_getElem? hj)).1
  exact ⟨b, cap, spare, rfl, h5, h6, h7, M, h1, h2, h3, h4.swap1 hj rfl rfl h8⟩
theorem Tr.openM {Q : Exit → Act → World → Prop} {c : Code} {e : TypeId} {sz : Nat} {rows : List (List Pr)} {v : Value} (j : Nat) (hj : rs[j]? = some (mutRes e sz rows v))
    (k : ∀ (b cap : Nat) (spare : List Value), v = .slice (some ⟨b, 0, none⟩) rows.length cap → rows.length ≤ cap → cap ≤ maxLen → spare.length = (cap - rows.length) * sz → Tr P n E (Hp M0 w0 S (rs.set j (cellsRes true b e (rows.flatten ++ spare.map is)))) c Q) : Tr P n E (Hp M0 w0 S rs) c Q :=
  fun a w hs => let ⟨b, cap, spare, h1, h2, h3, h4, h5⟩ := hs.openM j hj; k b cap spare h1 h2 h3 h4 a w h5
theorem Fin.openM {Q : Exit → Act → World → Prop} {ex : Exit} {e : TypeId} {sz : Nat} {rows : List (List Pr)} {v : Value} (j : Nat) (hj : rs[j]? = some (mutRes e sz rows v))
    (k : ∀ (b cap : Nat) (spare : List Value), v = .slice (some ⟨b, 0, none⟩) rows.length cap → rows.length ≤ cap → cap ≤ maxLen → spare.length = (cap - rows.length) * sz → Fin n E (Hp M0 w0 S (rs.set j (cellsRes true b e (rows.flatten ++ spare.map is)))) Q ex) : Fin n E (Hp M0 w0 S rs) Q ex :=
  fun a w hs => let ⟨b, cap, spare, h1, h2, h3, h4, h5⟩ := hs.openM j hj; k b cap spare h1 h2 h3 h4 a w h5

/-- Nobody turns its elements any more; there may be room behind them. -/
theorem HpH.frz {M : Av} {w : World} {b cap sz : Nat} {e : TypeId} {rows : List (List Pr)} {qs : List Pr} {j : Nat} (h : HpH M0 w0 S rs M w) (hj : rs[j]? = some (cellsRes true b e (rows.flatten ++ qs))) (hl : ∀ r ∈ rows, r.length = sz) (hc : rows.length ≤ cap) (hm : cap ≤ maxLen) (hq : qs.length = (cap - rows.length) * sz) :
    ∃ M', Ext M w M' w ∧ HpH M0 w0 S (rs.set j (appRes e sz (.slice (some ⟨b, 0, none⟩) rows.length cap))) M' w ∧ (slice sz rows).h M' w (.slice (some ⟨b, 0, none⟩) rows.length cap) := by
  obtain ⟨⟨hM, cs, hh, hcs, hone⟩, hbb⟩ := h.hold _ (List.mem_of_getElem? hj)
  have hbl := (hbb b rfl).1
  have hfl := HL.flat hl hcs hone
  have hlen := hcs.length
  rw [List.length_append, flat_len hl, hq, ← Nat.add_mul, show rows.length + (cap - rows.length) = cap by omega] at hlen
  have he : Ext M w (fun b' o => M b' o ∧ ¬ (b' = b ∧ o < rows.length * sz)) w := Ext.less fun _ _ h => h.1
  refine ⟨_, he, ?_, slice_of_flat (hfl.st he) hc hm fun k u hk => ?_⟩
  · refine h.replace hj he rfl rfl rfl (fun _ _ _ => rfl) rfl (fun b' o hm' hne => ⟨hm', fun hx => hne (by rw [hx.1]; rfl)⟩) (fun b' o hx => h.bd _ _ hx.1) ?_ rfl (fun b' hbk => ?_)
    · intro a' n' c' hv hlt
      injection hv with e1 e2 e3
      injection e1 with e1
      subst e1; subst e2; subst e3
      refine ⟨⟨cs.take (rows.length * sz), hfl.1, .inr ⟨b, cap, cs.toArray, rfl, Nat.zero_le _, hh, hc, hm, by simpa using hlen, by simp⟩⟩, fun o ho => ⟨hM o, fun hx => by omega⟩⟩
    · have hbk' : appBlk (.slice (some ⟨b, 0, none⟩) rows.length cap) = some b' := hbk
      simp only [appBlk] at hbk'
      split at hbk'
      · simp at hbk'; subst hbk'; exact ⟨hbl, .inl rfl⟩
      · cases hbk'
  · have hkl : k < rows.length * sz := by rw [← hfl.1]; rcases Nat.lt_or_ge k (cs.take (rows.length * sz)).length with h | h; exact h; rw [List.getElem?_eq_none h] at hk; cases hk
    rw [List.getElem?_take, if_pos hkl] at hk
    exact ⟨by simp [World.cell?, hh, hk], fun hx => hx.2 ⟨rfl, hkl⟩⟩
end
end Cp
namespace Cp
open Go Go.RowKit Go.Great

/-- This text. -/
abbrev str (l : List UInt8) : Pr := is (.string ⟨l.toArray⟩)
theorem str_toList (l : List UInt8) : (ByteArray.mk l.toArray).toList = l := by rw [ByteArray.toList_eq]
theorem str_size (l : List UInt8) : (ByteArray.mk l.toArray).size = l.length := rfl
section
variable {P : Program} {E : Env} {I : Asn} {o : Oper}
theorem ok_eqs {t u : TypeId} {x y : Operand} {a b : List UInt8} (ho : o.op = .binOp .eql t x y u) (hx : VL E x (str a)) (hy : VL E y (str b)) : OpOK P I o E (bool (decide (a = b))) :=
  OpOK.same fun M w ac he _ => by
    have h1 : ac.eval x = _ := hx.ev he (by simp [ho, Op.operands])
    have h2 : ac.eval y = _ := hy.ev he (by simp [ho, Op.operands])
    refine ⟨_, by simp [execOp, ho, h1, h2, eqGuard, binOp, Op.stringOp, str_toList]; rfl, ?_⟩
    show Value.bool _ = Value.bool _
    congr 1
    rw [Bool.eq_iff_iff]; simp
theorem ok_nes {t u : TypeId} {x y : Operand} {a b : List UInt8} (ho : o.op = .binOp .neq t x y u) (hx : VL E x (str a)) (hy : VL E y (str b)) : OpOK P I o E (bool (!decide (a = b))) :=
  OpOK.same fun M w ac he _ => by
    have h1 : ac.eval x = _ := hx.ev he (by simp [ho, Op.operands])
    have h2 : ac.eval y = _ := hy.ev he (by simp [ho, Op.operands])
    refine ⟨_, by simp [execOp, ho, h1, h2, eqGuard, binOp, Op.stringOp, str_toList]; rfl, ?_⟩
    show Value.bool _ = Value.bool _
    congr 1
    rw [Bool.eq_iff_iff]; simp

theorem cmp_less : ∀ (a b : List UInt8), Op.bytesLess a b = decide (Lib.compareBytes a b = -1)
  | _, [] => by cases ‹List UInt8› <;> simp [Op.bytesLess, Lib.compareBytes]
  | [], _ :: _ => by simp [Op.bytesLess, Lib.compareBytes]
  | a :: x, b :: y => by
    rw [Op.bytesLess, cmp_less x y, Lib.compareBytes]
    by_cases h1 : a < b
    · simp [h1]
    · by_cases h2 : b < a
      · have h3 : a ≠ b := fun e => by subst e; exact h1 h2
        simp [h1, h2, h3]
      · have h3 : a = b := UInt8.le_antisymm (UInt8.not_lt.1 h2) (UInt8.not_lt.1 h1)
        simp [h1, h2, h3]
theorem ok_ges {t u : TypeId} {x y : Operand} {a b : List UInt8} (ho : o.op = .binOp .geq t x y u) (hx : VL E x (str a)) (hy : VL E y (str b)) : OpOK P I o E (bool (!decide (Lib.compareBytes a b = -1))) :=
  OpOK.same fun M w ac he _ => by
    have h1 : ac.eval x = _ := hx.ev he (by simp [ho, Op.operands])
    have h2 : ac.eval y = _ := hy.ev he (by simp [ho, Op.operands])
    exact ⟨_, by simp [execOp, ho, h1, h2, eqGuard, binOp, Op.stringOp, str_toList, cmp_less], rfl⟩
theorem ok_lens {t : TypeId} {x : Operand} {a : List UInt8} (ho : o.op = .call { callee := .builtin .len, args := #[x], argTypes := #[t] }) (ht : P.underlying t = some .string) (hx : VL E x (str a)) : OpOK P I o E (int ((a.length : Nat) : Int)) :=
  OpOK.same fun M w ac he _ => by
    have h1 : ac.eval x = _ := hx.ev he (by simp [ho, Op.operands, Call.operands])
    exact ⟨.int .i64 a.length, by simp [execOp, ho, resolve, invoke, builtin, Builtin.len_, h1, run_underlying ht, goInt, str_size], rfl⟩
theorem ok_sidx {t : TypeId} {x y : Operand} {k : IntKind} {a : List UInt8} {i : Int} {c : UInt8} (ho : o.op = .index t x y) (ht : P.underlying t = some .string) (hx : VL E x (str a)) (hy : VL E y (is (.int k i))) (h0 : 0 ≤ i) (hc : a[i.toNat]? = some c) : OpOK P I o E (is (.int .u8 c.toNat)) :=
  OpOK.same fun M w ac he _ => by
    have h1 : ac.eval x = _ := hx.ev he (by simp [ho, Op.operands])
    have h2 : ac.eval y = _ := hy.ev he (by simp [ho, Op.operands])
    refine ⟨_, ?_, rfl⟩
    have hlt : i.toNat < a.length := by rcases Nat.lt_or_ge i.toNat a.length with h | h; exact h; rw [List.getElem?_eq_none h] at hc; cases hc
    have h3 : (ByteArray.mk a.toArray)[i.toNat]? = some c := by
      rw [getElem?_pos (ByteArray.mk a.toArray) i.toNat (by rw [str_size]; exact hlt)]
      rw [List.getElem?_eq_getElem hlt] at hc
      simp only [Option.some.injEq] at hc
      rw [← hc]
      rfl
    simp [execOp, ho, h1, h2, Instr.index, asIntOf, run_underlying ht, h0, h3]
theorem ok_bytes {s t e : TypeId} {x : Operand} {a : List UInt8} (ho : o.op = .convert s t x) (hs : P.underlying s = some .string) (ht : P.underlying t = some (.slice e)) (he : P.underlying e = some (.int .u8)) (hx : VL E x (str a)) (hm : a.length ≤ maxLen) : OpOK P I o E (slice 1 (a.map fun c => [is (.int .u8 c.toNat)])) :=
  OpOK.val fun M w ac hev hI => by
    have h1 : ac.eval x = _ := hx.ev hev (by simp [ho, Op.operands])
    have hrun := Lib.run_convert_string_bytes (P := P) w s t e ⟨a.toArray⟩ hs ht he
    have hcap := grownCap_ge w a.length 0 e
    have hcm := grownCap_le_maxLen w a.length 0 e hm
    refine ⟨.slice (some ⟨w.heap.size, 0, none⟩) a.length (grownCap w a.length 0 e), Lib.bytesWorld w e ⟨a.toArray⟩, by simp [execOp, ho, h1, hrun]; exact ⟨rfl, rfl⟩, ?_, ?_⟩
    · have hbd : Bd M w := I.bd _ _ hI
      refine ⟨_, grownCap w a.length 0 e, by rw [List.length_map], by rw [List.length_map]; exact hcap, hcm, (fun h => by cases h), fun i row hr => ?_⟩
      rw [List.getElem?_map] at hr
      cases hc : a[i]? with
      | none => rw [hc] at hr; cases hr
      | some c =>
        rw [hc] at hr
        simp only [Option.map_some, Option.some.injEq] at hr
        subst hr
        have hil : i < a.length := by rcases Nat.lt_or_ge i a.length with h | h; exact h; rw [List.getElem?_eq_none h] at hc; cases hc
        refine ⟨rfl, _, rfl, fun j p hp => ?_⟩
        have hj : j = 0 := by
          rcases Nat.eq_zero_or_pos j with h | h
          · exact h
          · rw [List.getElem?_eq_none (by simp; omega)] at hp; cases hp
        subst hj
        simp only [List.getElem?_cons_zero, Option.some.injEq] at hp
        subst hp
        refine ⟨.int .u8 c.toNat, ?_, fun hmm => ?_, rfl, rfl⟩
        · rw [show Addr.add ⟨w.heap.size, 0, none⟩ (i * 1 + 0) = ⟨w.heap.size, i, none⟩ by unfold Addr.add; split <;> simp_all]
          rw [Lib.bytesWorld_cell w e ⟨a.toArray⟩ i (by rw [str_size]; exact hil)]
          have : ([] ++ a).getD i 0 = c := by simp [hc]
          simp [hc]
        · have := hbd _ _ hmm; simp at this
    · exact Lib.bytesWorld_below w e ⟨a.toArray⟩

theorem sidx_at {a : List UInt8} {k : Nat} {c : UInt8} (h : a[k]? = some c) : a[((k : Nat) : Int).toNat]? = some c := h

theorem ok_index {t e : TypeId} {x y : Operand} {k : IntKind} {i : Int} {len sz : Nat} {ps qs : List Pr} (ho : o.op = .index t x y) (ht : P.underlying t = some (.array len e)) (he : aggB P e = true) (hz : sizeB P e = some sz) (hx : VL E x (agg ps)) (hy : VL E y (is (.int k i))) (h0 : 0 ≤ i) (hl : i < len)
    (hq : (ps.drop (i.toNat * sz)).take sz = qs) : OpOK P I o E (agg qs) :=
  OpOK.same fun M w ac hev _ => by
    obtain ⟨cs, h1, ho1, h2⟩ := hx.ev hev (by simp [ho, Op.operands])
    have h3 : ac.eval y = _ := hy.ev hev (by simp [ho, Op.operands])
    refine ⟨.agg (cs.toArray.extract (i.toNat * sz) (i.toNat * sz + sz)), ?_, (cs.drop (i.toNat * sz)).take sz, ?_, fun c hc => ho1 c (List.mem_of_mem_drop (List.mem_of_mem_take hc)), by rw [← hq]; exact (h2.drop _).take _⟩
    · simp [execOp, ho, h1, h3, Instr.index, asIntOf, run_underlying ht, h0, hl, run_size hz, part, run_isAgg_agg he]
    · congr 1
      apply Array.toList_inj.1
      simp [List.extract, Nat.add_sub_cancel_left]

theorem agg_is {M : Av} {w : World} {v : Value} {xs : List Value} (h : (agg (xs.map is)).h M w v) : v = .agg xs.toArray := by
  obtain ⟨cs, rfl, ho, h2⟩ := h
  congr 1
  have : cs = xs := by
    clear ho
    induction xs generalizing cs with
    | nil => cases cs with
      | nil => rfl
      | cons c cs => exact h2.elim
    | cons x xs ih => cases cs with
      | nil => exact h2.elim
      | cons c cs => rw [ih cs h2.2, show c = x from h2.1]
  rw [this]
theorem ok_eqagg {t u : TypeId} {x y : Operand} {r : Bool} (xs ys : List Value) (ho : o.op = .binOp .eql t x y u) (hx : VL E x (agg (xs.map is))) (hy : VL E y (agg (ys.map is))) (hg : P.eqGuardType P.depth t = false) (hr : ∀ w, (Op.equal t (.agg xs.toArray) (.agg ys.toArray)).run P w = .ok r w) : OpOK P I o E (bool r) :=
  OpOK.same fun M w ac he _ => by
    have h1 := agg_is (hx.ev he (by simp [ho, Op.operands]))
    have h2 := agg_is (hy.ev he (by simp [ho, Op.operands]))
    exact ⟨_, by simp [execOp, ho, h1, h2, eqGuard, hg, binOp, hr w], rfl⟩
theorem ok_neagg {t u : TypeId} {x y : Operand} {r : Bool} (xs ys : List Value) (ho : o.op = .binOp .neq t x y u) (hx : VL E x (agg (xs.map is))) (hy : VL E y (agg (ys.map is))) (hg : P.eqGuardType P.depth t = false) (hr : ∀ w, (Op.equal t (.agg xs.toArray) (.agg ys.toArray)).run P w = .ok r w) : OpOK P I o E (bool (!r)) :=
  OpOK.same fun M w ac he _ => by
    have h1 := agg_is (hx.ev he (by simp [ho, Op.operands]))
    have h2 := agg_is (hy.ev he (by simp [ho, Op.operands]))
    exact ⟨_, by simp [execOp, ho, h1, h2, eqGuard, hg, binOp, hr w], rfl⟩

theorem eqS {P : Program} {w : World} {d : Nat} {t : TypeId} {fs : Array Field} {xs ys : Array Value} {r : Bool} (ht : P.underlying t = some (.struct fs)) (hp : P.stoodInHeld t = false) (h : (Op.eqFields d xs ys fs.toList).run P w = .ok r w) : (Op.equalIn (d + 1) t (.agg xs) (.agg ys)).run P w = .ok r w := by
  have hf : P.fieldsOf t = fs := by unfold Program.fieldsOf; rw [ht]
  rw [run_equalIn_struct w d t xs ys (by rw [hf]; exact ht) hp, hf]; exact h
theorem eqF_nil {P : Program} {w : World} {d : Nat} {xs ys : Array Value} : (Op.eqFields d xs ys []).run P w = .ok true w := by simp [Op.eqFields]
theorem eqF_cons {P : Program} {w : World} {d : Nat} {xs ys : Array Value} {f : Field} {fs : List Field} {vx vy : Value} {r q : Bool} (hn : f.name ≠ "_") (ha : (part f.type xs f.offset).run P w = .ok vx w) (hb : (part f.type ys f.offset).run P w = .ok vy w)
    (he : (Op.equalIn d f.type vx vy).run P w = .ok r w) (hr : (Op.eqFields d xs ys fs).run P w = .ok q w) : (Op.eqFields d xs ys (f :: fs)).run P w = .ok (r && q) w := by
  simp only [Op.eqFields, hn, ne_eq, not_false_eq_true, if_true, Sem.run_bind, ha, hb, he, Result.andThen_ok]
  cases r
  · simp
  · simpa using hr
theorem part_leaf {P : Program} {w : World} {t : TypeId} {cs : Array Value} {off : Nat} {v : Value} (h1 : oneB P t = true) (hv : cs[off]? = some v) : (part t cs off).run P w = .ok v w := by
  simp [part, run_isAgg_one h1, hv]
theorem eq_intL {P : Program} {w : World} {d : Nat} {t : TypeId} {k : IntKind} {a b : Int} (h : P.underlying t = some (.int k)) : (Op.equalIn (d + 1) t (.int k a) (.int k b)).run P w = .ok (decide (a = b)) w := by
  rw [run_equalIn_int w d t k k a b h]; rfl
end
end Cp
namespace Go.Proofs.YtflodcidhlmaaaaGreat
open Go Go.RowKit Cp
-- no type cipherplan/api.Fact here
-- no type cipherplan/asset.place here
theorem eqv44 {d : Nat} {w : World} {x0 y0 : Int} {x1 y1 : Int} : (Op.equalIn (d + 2) 44 (.agg #[.int .i64 x0, .int .i64 x1]) (.agg #[.int .i64 y0, .int .i64 y1])).run Tryz.prog w = .ok (decide (x0 = y0 ∧ x1 = y1)) w := by
  have h := eqS (w := w) (d := d + 1) (xs := #[.int .i64 x0, .int .i64 x1]) (ys := #[.int .i64 y0, .int .i64 y1]) Tryz.underlying44 (by kernel_rfl) (eqF_cons (by decide) (part_leaf one3 rfl) (part_leaf one3 rfl) (eq_intL (d := d + 0) Tryz.underlying3) (eqF_cons (by decide) (part_leaf one3 rfl) (part_leaf one3 rfl) (eq_intL (d := d + 0) Tryz.underlying3) (eqF_nil)))
  refine h.trans (congrArg (fun b => Result.ok b w) ?_)
  rw [Bool.eq_iff_iff]; simp [and_assoc]
theorem ok_eq44 {E : Env} {I : Asn} {o : Oper} {u : TypeId} {x y : Operand} {x0 y0 : Int} {x1 y1 : Int} (ho : o.op = .binOp .eql 44 x y u) (hx : VL E x (agg [is (.int .i64 x0), is (.int .i64 x1)])) (hy : VL E y (agg [is (.int .i64 y0), is (.int .i64 y1)])) : OpOK Tryz.prog I o E (bool (decide (x0 = y0 ∧ x1 = y1))) :=
  ok_eqagg [.int .i64 x0, .int .i64 x1] [.int .i64 y0, .int .i64 y1] ho hx hy (by kernel_rfl) (fun w => by rw [show Op.equal 44 _ _ = Op.equalIn (9998 + 2) 44 _ _ from rfl]; exact eqv44)
theorem ok_ne44 {E : Env} {I : Asn} {o : Oper} {u : TypeId} {x y : Operand} {x0 y0 : Int} {x1 y1 : Int} (ho : o.op = .binOp .neq 44 x y u) (hx : VL E x (agg [is (.int .i64 x0), is (.int .i64 x1)])) (hy : VL E y (agg [is (.int .i64 y0), is (.int .i64 y1)])) : OpOK Tryz.prog I o E (bool (!decide (x0 = y0 ∧ x1 = y1))) :=
  ok_neagg [.int .i64 x0, .int .i64 x1] [.int .i64 y0, .int .i64 y1] ho hx hy (by kernel_rfl) (fun w => by rw [show Op.equal 44 _ _ = Op.equalIn (9998 + 2) 44 _ _ from rfl]; exact eqv44)
end Go.Proofs.YtflodcidhlmaaaaGreat
namespace Go.Proofs.YtflodcidhlmaaaaGreat
open Go Go.RowKit Cp

def okc (c : UInt8) : Bool := decide (33 ≤ c.toNat ∧ c.toNat ≤ 126)
def named (s : List UInt8) : Bool := s.all okc && decide (1 ≤ s.length ∧ s.length ≤ 32)
theorem all_hit {β : Type} {p : β → Bool} {l : List β} {k : Nat} {x : β} (hx : l[k]? = some x) (hp : p x = false) : l.all p = false := by
  rw [Bool.eq_false_iff]; intro h; rw [List.all_eq_true] at h; rw [h x (List.mem_of_getElem? hx)] at hp; cases hp
theorem all_end {β : Type} {p : β → Bool} {l : List β} (h : ∀ j y, j < l.length → l[j]? = some y → (!p y) = false) : l.all p = true := by
  rw [List.all_eq_true]
  intro y hy
  obtain ⟨j, hj⟩ := List.mem_iff_getElem?.1 hy
  have := h j y (by rcases Nat.lt_or_ge j l.length with h | h; exact h; rw [List.getElem?_eq_none h] at hj; cases hj) hj
  simpa using this

set_option maxRecDepth 20000 in
theorem w_Named {s : List UInt8} (hs : s.length ≤ maxLen) : Fun Tryz.prog 188 [str s] (bool (named s)) := by
 refine Fun.of Tryz.func188 rfl rfl (by exact Nat.le_of_ble_eq_true rfl) fun M0 w0 => ?_
 refine Tr.seq (Tr.reg0 (cm rfl (Ch.nil (Fin.go (Tr.seq (Tr.seq (Tr.reg0 (cm rfl (co rfl (ok_bytes rfl Tryz.underlying9 Tryz.underlying176 Tryz.underlying5 (vl rfl) (by assumption)) (co rfl (ok_lenm rfl Tryz.underlying176 (vl rfl)) (cm rfl (Ch.nil (Fin.go (Tr.block ?_))))))))))))))
 refine Tr.lenm 6 rfl fun hl6 => (Tr.loopw [(0, _), (6, _), (7, _)] (kk3 rfl) (fun k : Nat => [(8, int ((k : Nat) : Int))]) (fun k : Nat => k ≤ (s).length ∧ (∀ j y, j < k → s[j]? = some y → (!okc y) = false)) (fun k : Nat => (s).length - k) 0 (⟨Nat.zero_le _, fun j y hj => absurd hj (by omega)⟩) ⟨ke rfl, trivial⟩ ?_)
 rintro k ⟨hle_k, hinv_k⟩
 refine Tr.seq (Tr.reg0 (co rfl (ki rfl rfl rfl rfl) (Ch.nil (Fin.go (Tr.seq ?_)))))
 refine Tr.cn rfl ?_ ?_ <;> intro h1 q1
 have hk_k : k < (s).length := lt_of_dec h1
 obtain ⟨c, hx_k⟩ := at_ hk_k
 refine Tr.skip (Fin.go (Tr.seq (Tr.block (Tr.seq (Tr.reg0 (co rfl (ok_indexAddr rfl Tryz.underlying176 sz5 (vl rfl) (vl rfl) (by omega) (by exact row_at (by assumption))) ?_))))))
 refine co rfl (kl1 rfl one5 rfl) (cm rfl (Ch.nil (Fin.go (Tr.seq (Tr.reg0 (cm rfl (co rfl (ki rfl rfl rfl rfl) (cm rfl ?_))))))))
 refine Ch.cs 14 rfl ?_ ?_ <;> intro h2 q2
 refine cnf h2 rfl (cnf h2 rfl (co rfl (kpt rfl rfl h2 rfl) (Ch.nil (Fin.go (wk5 0 6 7 8 17 rfl (Tr.cond rfl (fun _ => ?_) (fun h => nomatch h)))))))
 refine Tr.seq (Tr.reg0 (cm rfl (Ch.nil (Fin.go (Tr.ret (Fin.block_ret (Fin.then_ret (Fin.then_ret (Fin.block_ret (Fin.then_ret (Fin.ret1 rfl (OutW.bse _ _) rfl ?_)))))))))))
 · refine bool_eq ?_; unfold named; rw [all_hit (p := okc) hx_k (by simp [okc]; omega)]; rfl
 refine cym h2 rfl (cy h2 rfl (ki rfl rfl rfl rfl) (co rfl (kpf rfl rfl h2 rfl) (Ch.nil (Fin.go (wk5 0 6 7 8 17 rfl ?_)))))
 refine Tr.cn rfl ?_ ?_ <;> intro h3 q3
 refine Tr.seq (Tr.reg0 (cm rfl (Ch.nil (Fin.go (Tr.ret (Fin.block_ret (Fin.then_ret (Fin.then_ret (Fin.block_ret (Fin.then_ret (Fin.ret1 rfl (OutW.bse _ _) rfl ?_)))))))))))
 · refine bool_eq ?_; unfold named; rw [all_hit (p := okc) hx_k (by simp [okc]; omega)]; rfl
 refine Tr.skip (Fin.block (Fin.go (Tr.reg0 (cad rfl rfl rfl rfl (by omega) (cm rfl (Ch.nil ?_))))))
 exact Fin.fam_same (k + 1) ⟨⟨hk_k, step_no (p := fun c => !okc c) hx_k (by simp [okc]; omega) hinv_k⟩, by omega⟩ ⟨⟨_, rfl, int_succ k⟩, ke rfl, ke rfl, ke rfl, trivial⟩
 have he_k : k = (s).length := by have := ge_of_dec h1; omega
 subst he_k
 refine Tr.exit (Fin.then_exit (Fin.then_exit (Fin.block_here (Fin.go (Tr.seq (Tr.reg0 (cm rfl (co rfl (ok_lens rfl Tryz.underlying9 (vl rfl)) (co rfl (ki rfl rfl rfl rfl) (cm rfl ?_))))))))))
 refine Ch.cs 22 rfl ?_ ?_ <;> intro h4 q4
 refine cym h4 rfl (cy h4 rfl (ok_lens rfl Tryz.underlying9 (vl rfl)) (cy h4 rfl (ki rfl rfl rfl rfl) (co rfl (kpt rfl rfl h4 rfl) (cm rfl (Ch.nil (Fin.go (wk1 2 rfl (Tr.ret (Fin.ret1 rfl (OutW.bse _ _) rfl ?_)))))))))
 · refine bool_eq ?_; unfold named; rw [all_end hinv_k, Bool.true_and]; rw [decide_eq_decide]; omega
 refine cnt h4 rfl (cnt h4 rfl (cnt h4 rfl (co rfl (kpf rfl rfl h4 rfl) (cm rfl (Ch.nil (Fin.go (wk1 2 rfl (Tr.ret (Fin.ret1 rfl (OutW.bse _ _) rfl ?_)))))))))
 · refine bool_eq ?_; unfold named; rw [all_end hinv_k, Bool.true_and]; (symm; rw [decide_eq_false_iff_not]; omega)
set_option maxRecDepth 20000 in
theorem w_RName {s : List UInt8}  : Fun Tryz.prog 156 [str s] (bool (named s)) := by
 refine Fun.of Tryz.func156 rfl rfl (by exact Nat.le_of_ble_eq_true rfl) fun M0 w0 => ?_
 refine Tr.seq (Tr.reg0 (cm rfl (Ch.nil (Fin.go (Tr.seq (Tr.seq (Tr.reg0 (cm rfl (co rfl (ok_lens rfl Tryz.underlying9 (vl rfl)) (co rfl (ki rfl rfl rfl rfl) (cm rfl ?_)))))))))))
 refine Ch.cs 7 rfl ?_ ?_ <;> intro h1 q1
 refine cnf h1 rfl (cnf h1 rfl (cnf h1 rfl (co rfl (kpt rfl rfl h1 rfl) (Ch.nil (Fin.go (Tr.cond rfl (fun _ => ?_) (fun h => nomatch h)))))))
 refine Tr.seq (Tr.reg0 (cm rfl (Ch.nil (Fin.go (Tr.ret (Fin.then_ret (Fin.ret1 rfl (OutW.bse _ _) rfl ?_)))))))
 · refine bool_eq ?_; unfold named; rw [Bool.and_eq_false_iff.2 (.inr (by simp; omega))]
 refine cym h1 rfl (cy h1 rfl (ok_lens rfl Tryz.underlying9 (vl rfl)) (cy h1 rfl (ki rfl rfl rfl rfl) (co rfl (kpf rfl rfl h1 rfl) (Ch.nil (Fin.go ?_)))))
 refine Tr.cn rfl ?_ ?_ <;> intro h2 q2
 refine Tr.seq (Tr.reg0 (cm rfl (Ch.nil (Fin.go (Tr.ret (Fin.then_ret (Fin.ret1 rfl (OutW.bse _ _) rfl ?_)))))))
 · refine bool_eq ?_; unfold named; rw [Bool.and_eq_false_iff.2 (.inr (by simp; omega))]
 refine Tr.skip (Fin.go (Tr.seq (Tr.seq (Tr.reg0 (cm rfl (Ch.nil (Fin.go (Tr.block (Tr.loopw [(0, _)] ⟨ke rfl, trivial⟩ (fun k : Nat => [(3, int ((k : Nat) : Int))]) (fun k : Nat => k ≤ (s).length ∧ (∀ j y, j < k → s[j]? = some y → (!okc y) = false)) (fun k : Nat => (s).length - k) 0 (⟨Nat.zero_le _, fun j y hj => absurd hj (by omega)⟩) ⟨ke rfl, trivial⟩ ?_)))))))))
 rintro k ⟨hle_k, hinv_k⟩
 refine Tr.seq (Tr.seq (Tr.reg0 (cm rfl (cm rfl (co rfl (ok_lens rfl Tryz.underlying9 (vl rfl)) (co rfl (ki rfl rfl rfl rfl) (Ch.nil (Fin.go ?_))))))))
 refine Tr.cn rfl ?_ ?_ <;> intro h3 q3
 have hk_k : k < (s).length := lt_of_dec h3
 obtain ⟨c, hx_k⟩ := at_ hk_k
 refine Tr.skip (Fin.go (Tr.seq (Tr.block (Tr.seq (Tr.reg0 (cm rfl (cm rfl (co rfl (ok_sidx rfl Tryz.underlying9 (vl rfl) (vl rfl) (by omega) (sidx_at (by assumption))) (co rfl (ki rfl rfl rfl rfl) (cm rfl ?_))))))))))
 refine Ch.cs 22 rfl ?_ ?_ <;> intro h4 q4
 iterate 4 refine cnf h4 rfl ?_
 refine co rfl (kpt rfl rfl h4 rfl) (Ch.nil (Fin.go (wk3 0 3 27 rfl (Tr.cond rfl (fun _ => ?_) (fun h => nomatch h)))))
 refine Tr.seq (Tr.reg0 (cm rfl (Ch.nil (Fin.go (Tr.ret (Fin.block_ret (Fin.then_ret (Fin.then_ret (Fin.block_ret (Fin.then_ret (Fin.ret1 rfl (OutW.bse _ _) rfl ?_)))))))))))
 · refine bool_eq ?_; unfold named; rw [all_hit (p := okc) hx_k (by simp [okc]; omega)]; rfl
 refine cym h4 rfl (cym h4 rfl (cy h4 rfl (ok_sidx rfl Tryz.underlying9 (vl rfl) (vl rfl) (by omega) (sidx_at (by assumption))) (cy h4 rfl (ki rfl rfl rfl rfl) (co rfl (kpf rfl rfl h4 rfl) (Ch.nil (Fin.go (wk3 0 3 27 rfl ?_)))))))
 refine Tr.cn rfl ?_ ?_ <;> intro h5 q5
 refine Tr.seq (Tr.reg0 (cm rfl (Ch.nil (Fin.go (Tr.ret (Fin.block_ret (Fin.then_ret (Fin.then_ret (Fin.block_ret (Fin.then_ret (Fin.ret1 rfl (OutW.bse _ _) rfl ?_)))))))))))
 · refine bool_eq ?_; unfold named; rw [all_hit (p := okc) hx_k (by simp [okc]; omega)]; rfl
 refine Tr.skip (Fin.block (Fin.go (Tr.reg0 (cm rfl (cad rfl rfl rfl rfl (by omega) (cm rfl (Ch.nil ?_)))))))
 exact Fin.fam_same (k + 1) ⟨⟨hk_k, step_no (p := fun c => !okc c) hx_k (by simp [okc]; omega) hinv_k⟩, by omega⟩ ⟨⟨_, rfl, int_succ k⟩, ke rfl, trivial⟩
 have he_k : k = (s).length := by have := ge_of_dec h3; omega
 subst he_k
 refine Tr.exit (Fin.then_exit (Fin.then_exit (Fin.block_here (Fin.go (Tr.seq (Tr.reg0 (cm rfl (Ch.nil (Fin.go (Tr.ret (Fin.ret1 rfl (OutW.bse _ _) rfl ?_)))))))))))
 · refine bool_eq ?_; unfold named; rw [all_end hinv_k, Bool.true_and]; symm; rw [decide_eq_true_eq]; omega
end Go.Proofs.YtflodcidhlmaaaaGreat
namespace Go.Proofs.YtflodcidhlmaaaaGreat
open Go Go.RowKit Cp

structure CatRow where
  name : List UInt8
  kind : Int
  way : Int
  sizes : List Int
  strengths : List Int
abbrev rowC (r : CatRow) : List Pr := [str r.name, int r.kind, int r.way, ints r.sizes, ints r.strengths]
def catTable : List CatRow := [⟨[], 0, 0, [], []⟩, ⟨[109, 100, 53], 1, 0, [], [18]⟩, ⟨[115, 104, 97, 49], 1, 0, [], [60]⟩, ⟨[115, 104, 97, 50, 53, 54], 1, 0, [], [128]⟩, ⟨[115, 104, 97, 51, 56, 52], 1, 0, [], [192]⟩, ⟨[114, 115, 97], 2, 1, [], []⟩, ⟨[100, 115, 97], 2, 1, [], []⟩, ⟨[101, 99, 100, 115, 97], 2, 2, [], []⟩, ⟨[101, 100, 50, 53, 53, 49, 57], 2, 0, [], [128]⟩, ⟨[109, 108, 100, 115, 97], 2, 3, [44, 65, 87], [128, 192, 256]⟩, ⟨[114, 115, 97, 107, 120], 3, 1, [], []⟩, ⟨[100, 104, 101], 3, 1, [], []⟩, ⟨[101, 99, 100, 104, 101], 3, 2, [], []⟩, ⟨[109, 108, 107, 101, 109], 3, 3, [512, 768, 1024], [128, 192, 256]⟩, ⟨[114, 99, 52], 4, 3, [40, 128], [40, 60]⟩, ⟨[100, 101, 115, 51], 4, 3, [112, 168], [80, 112]⟩, ⟨[97, 101, 115, 99, 98, 99], 4, 3, [128, 256], [128, 256]⟩, ⟨[97, 101, 115, 103, 99, 109], 4, 3, [128, 256], [128, 256]⟩, ⟨[99, 104, 97, 99, 104, 97], 4, 0, [], [256]⟩, ⟨[104, 109, 97, 99, 109, 100, 53], 5, 0, [], [64]⟩, ⟨[104, 109, 97, 99, 115, 104, 97, 49], 5, 0, [], [80]⟩, ⟨[104, 109, 97, 99, 115, 104, 97, 50, 53, 54], 5, 0, [], [128]⟩, ⟨[97, 101, 97, 100], 5, 0, [], [256]⟩]
def catZero : CatRow := ⟨[], 0, 0, [], []⟩
def catOf (alg : Int) : CatRow := if 1 ≤ alg ∧ alg ≤ 22 then (catTable[alg.toNat]?).getD catZero else catZero
theorem catTable_at {alg : Int} (h : 1 ≤ alg ∧ alg ≤ 22) : catTable[alg.toNat]? = some (catOf alg) := by
  have hl : alg.toNat < catTable.length := by show alg.toNat < 23; omega
  unfold catOf; rw [if_pos h, List.getElem?_eq_getElem hl]; rfl
theorem flat_row {β : Type} {f : β → List Pr} {sz : Nat} (hf : ∀ x, (f x).length = sz) : ∀ {l : List β} {i : Nat} {x : β}, l[i]? = some x → ((l.flatMap f).drop (i * sz)).take sz = f x
  | [], _, _, h => by simp at h
  | a :: l, 0, x, h => by
    simp at h; subst h
    rw [List.flatMap_cons, Nat.zero_mul, List.drop_zero, List.take_append_of_le_length (by rw [hf]; exact Nat.le_refl _), List.take_of_length_le (by rw [hf]; exact Nat.le_refl _)]
  | a :: l, i + 1, x, h => by
    rw [List.flatMap_cons, Nat.succ_mul, Nat.add_comm, ← List.drop_drop, List.drop_left' (hf a)]
    exact flat_row hf (by simpa using h)
theorem drop_cons {β : Type} {l : List β} {k : Nat} {x : β} (h : l[k]? = some x) : l.drop k = x :: l.drop (k + 1) := by
  have hk : k < l.length := by rcases Nat.lt_or_ge k l.length with h' | h'; exact h'; rw [List.getElem?_eq_none h'] at h; cases h
  rw [List.drop_eq_getElem_cons hk]
  rw [List.getElem?_eq_getElem hk] at h
  simp at h; rw [h]
def mods : List (Int × Int) := [(1024, 56), (2048, 80), (3072, 112), (7680, 128), (15360, 192)]
def modF : List (Int × Int) → Int → Int
  | [], _ => 256
  | p :: l, b => if b < p.1 then p.2 else modF l b
def modI (b : Int) : Int := modF mods b

set_option maxRecDepth 20000 in
theorem w_rows   : Fun Tryz.prog 221 [] (agg (catTable.flatMap rowC)) := by
 refine Fun.of Tryz.func221 rfl rfl (by exact Nat.le_of_ble_eq_true rfl) fun M0 w0 => ?_
 refine Tr.seq (Tr.regT ?_)
 refine TO.alloc rfl rfl (by decide) rfl z237 zo237 (fun b1 => ?_)
 refine TO.nil (Fin.go (Tr.seq (Tr.regT (tp rfl (ok_buildSlice (xs := [.const (.int .i64 (18))]) (rows := [[_]]) rfl rfl Tryz.underlying22 sz3 z3 rfl (by decide) ⟨⟨(by exact rfl), (VL.le (vl rfl) (one_cellsP _))⟩, trivial⟩ (by decide)) ?_))))
 refine tp rfl (ok_build (rows := [(0, [_]), (1, [_]), (2, [_]), (3, [_]), (4, [_])]) rfl bl201 zo201 ⟨⟨rfl, (VL.le (vl rfl) (one_cellsP _))⟩, ⟨⟨rfl, (VL.le (vl rfl) (one_cellsP _))⟩, ⟨⟨rfl, (VL.le (vl rfl) (one_cellsP _))⟩, ⟨⟨rfl, ⟨_, rfl, Pr.le_trans (nil_slice 1) (one_cellsP _)⟩⟩, ⟨⟨rfl, ⟨_, rfl, Pr.le_trans (full_le _ _) (one_cellsP _)⟩⟩, trivial⟩⟩⟩⟩⟩ rfl) (tp rfl (ok_buildSlice (xs := [.const (.int .i64 (60))]) (rows := [[_]]) rfl rfl Tryz.underlying22 sz3 z3 rfl (by decide) ⟨⟨(by exact rfl), (VL.le (vl rfl) (one_cellsP _))⟩, trivial⟩ (by decide)) ?_)
 refine tp rfl (ok_build (rows := [(0, [_]), (1, [_]), (2, [_]), (3, [_]), (4, [_])]) rfl bl201 zo201 ⟨⟨rfl, (VL.le (vl rfl) (one_cellsP _))⟩, ⟨⟨rfl, (VL.le (vl rfl) (one_cellsP _))⟩, ⟨⟨rfl, (VL.le (vl rfl) (one_cellsP _))⟩, ⟨⟨rfl, ⟨_, rfl, Pr.le_trans (nil_slice 1) (one_cellsP _)⟩⟩, ⟨⟨rfl, ⟨_, rfl, Pr.le_trans (full_le _ _) (one_cellsP _)⟩⟩, trivial⟩⟩⟩⟩⟩ rfl) (tp rfl (ok_buildSlice (xs := [.const (.int .i64 (128))]) (rows := [[_]]) rfl rfl Tryz.underlying22 sz3 z3 rfl (by decide) ⟨⟨(by exact rfl), (VL.le (vl rfl) (one_cellsP _))⟩, trivial⟩ (by decide)) ?_)
 refine tp rfl (ok_build (rows := [(0, [_]), (1, [_]), (2, [_]), (3, [_]), (4, [_])]) rfl bl201 zo201 ⟨⟨rfl, (VL.le (vl rfl) (one_cellsP _))⟩, ⟨⟨rfl, (VL.le (vl rfl) (one_cellsP _))⟩, ⟨⟨rfl, (VL.le (vl rfl) (one_cellsP _))⟩, ⟨⟨rfl, ⟨_, rfl, Pr.le_trans (nil_slice 1) (one_cellsP _)⟩⟩, ⟨⟨rfl, ⟨_, rfl, Pr.le_trans (full_le _ _) (one_cellsP _)⟩⟩, trivial⟩⟩⟩⟩⟩ rfl) (tp rfl (ok_buildSlice (xs := [.const (.int .i64 (192))]) (rows := [[_]]) rfl rfl Tryz.underlying22 sz3 z3 rfl (by decide) ⟨⟨(by exact rfl), (VL.le (vl rfl) (one_cellsP _))⟩, trivial⟩ (by decide)) ?_)
 refine tp rfl (ok_build (rows := [(0, [_]), (1, [_]), (2, [_]), (3, [_]), (4, [_])]) rfl bl201 zo201 ⟨⟨rfl, (VL.le (vl rfl) (one_cellsP _))⟩, ⟨⟨rfl, (VL.le (vl rfl) (one_cellsP _))⟩, ⟨⟨rfl, (VL.le (vl rfl) (one_cellsP _))⟩, ⟨⟨rfl, ⟨_, rfl, Pr.le_trans (nil_slice 1) (one_cellsP _)⟩⟩, ⟨⟨rfl, ⟨_, rfl, Pr.le_trans (full_le _ _) (one_cellsP _)⟩⟩, trivial⟩⟩⟩⟩⟩ rfl) (tp rfl (ok_build (rows := [(0, [_]), (1, [_]), (2, [_]), (3, [_]), (4, [_])]) rfl bl201 zo201 ⟨⟨rfl, (VL.le (vl rfl) (one_cellsP _))⟩, ⟨⟨rfl, (VL.le (vl rfl) (one_cellsP _))⟩, ⟨⟨rfl, (VL.le (vl rfl) (one_cellsP _))⟩, ⟨⟨rfl, ⟨_, rfl, Pr.le_trans (nil_slice 1) (one_cellsP _)⟩⟩, ⟨⟨rfl, ⟨_, rfl, Pr.le_trans (nil_slice 1) (one_cellsP _)⟩⟩, trivial⟩⟩⟩⟩⟩ rfl) (tp rfl (ok_build (rows := [(0, [_]), (1, [_]), (2, [_]), (3, [_]), (4, [_])]) rfl bl201 zo201 ⟨⟨rfl, (VL.le (vl rfl) (one_cellsP _))⟩, ⟨⟨rfl, (VL.le (vl rfl) (one_cellsP _))⟩, ⟨⟨rfl, (VL.le (vl rfl) (one_cellsP _))⟩, ⟨⟨rfl, ⟨_, rfl, Pr.le_trans (nil_slice 1) (one_cellsP _)⟩⟩, ⟨⟨rfl, ⟨_, rfl, Pr.le_trans (nil_slice 1) (one_cellsP _)⟩⟩, trivial⟩⟩⟩⟩⟩ rfl) (tp rfl (ok_build (rows := [(0, [_]), (1, [_]), (2, [_]), (3, [_]), (4, [_])]) rfl bl201 zo201 ⟨⟨rfl, (VL.le (vl rfl) (one_cellsP _))⟩, ⟨⟨rfl, (VL.le (vl rfl) (one_cellsP _))⟩, ⟨⟨rfl, (VL.le (vl rfl) (one_cellsP _))⟩, ⟨⟨rfl, ⟨_, rfl, Pr.le_trans (nil_slice 1) (one_cellsP _)⟩⟩, ⟨⟨rfl, ⟨_, rfl, Pr.le_trans (nil_slice 1) (one_cellsP _)⟩⟩, trivial⟩⟩⟩⟩⟩ rfl) (tp rfl (ok_buildSlice (xs := [.const (.int .i64 (128))]) (rows := [[_]]) rfl rfl Tryz.underlying22 sz3 z3 rfl (by decide) ⟨⟨(by exact rfl), (VL.le (vl rfl) (one_cellsP _))⟩, trivial⟩ (by decide)) ?_))))
 refine tp rfl (ok_build (rows := [(0, [_]), (1, [_]), (2, [_]), (3, [_]), (4, [_])]) rfl bl201 zo201 ⟨⟨rfl, (VL.le (vl rfl) (one_cellsP _))⟩, ⟨⟨rfl, (VL.le (vl rfl) (one_cellsP _))⟩, ⟨⟨rfl, (VL.le (vl rfl) (one_cellsP _))⟩, ⟨⟨rfl, ⟨_, rfl, Pr.le_trans (nil_slice 1) (one_cellsP _)⟩⟩, ⟨⟨rfl, ⟨_, rfl, Pr.le_trans (full_le _ _) (one_cellsP _)⟩⟩, trivial⟩⟩⟩⟩⟩ rfl) (tp rfl (ok_buildSlice (xs := [.const (.int .i64 (44)), .const (.int .i64 (65)), .const (.int .i64 (87))]) (rows := [[_], [_], [_]]) rfl rfl Tryz.underlying22 sz3 z3 rfl (by decide) ⟨⟨(by exact rfl), (VL.le (vl rfl) (one_cellsP _))⟩, ⟨⟨(by exact rfl), (VL.le (vl rfl) (one_cellsP _))⟩, ⟨⟨(by exact rfl), (VL.le (vl rfl) (one_cellsP _))⟩, trivial⟩⟩⟩ (by decide)) ?_)
 refine tp rfl (ok_buildSlice (xs := [.const (.int .i64 (128)), .const (.int .i64 (192)), .const (.int .i64 (256))]) (rows := [[_], [_], [_]]) rfl rfl Tryz.underlying22 sz3 z3 rfl (by decide) ⟨⟨(by exact rfl), (VL.le (vl rfl) (one_cellsP _))⟩, ⟨⟨(by exact rfl), (VL.le (vl rfl) (one_cellsP _))⟩, ⟨⟨(by exact rfl), (VL.le (vl rfl) (one_cellsP _))⟩, trivial⟩⟩⟩ (by decide)) ?_
 refine tp rfl (ok_build (rows := [(0, [_]), (1, [_]), (2, [_]), (3, [_]), (4, [_])]) rfl bl201 zo201 ⟨⟨rfl, (VL.le (vl rfl) (one_cellsP _))⟩, ⟨⟨rfl, (VL.le (vl rfl) (one_cellsP _))⟩, ⟨⟨rfl, (VL.le (vl rfl) (one_cellsP _))⟩, ⟨⟨rfl, ⟨_, rfl, Pr.le_trans (full_le _ _) (one_cellsP _)⟩⟩, ⟨⟨rfl, ⟨_, rfl, Pr.le_trans (full_le _ _) (one_cellsP _)⟩⟩, trivial⟩⟩⟩⟩⟩ rfl) (tp rfl (ok_build (rows := [(0, [_]), (1, [_]), (2, [_]), (3, [_]), (4, [_])]) rfl bl201 zo201 ⟨⟨rfl, (VL.le (vl rfl) (one_cellsP _))⟩, ⟨⟨rfl, (VL.le (vl rfl) (one_cellsP _))⟩, ⟨⟨rfl, (VL.le (vl rfl) (one_cellsP _))⟩, ⟨⟨rfl, ⟨_, rfl, Pr.le_trans (nil_slice 1) (one_cellsP _)⟩⟩, ⟨⟨rfl, ⟨_, rfl, Pr.le_trans (nil_slice 1) (one_cellsP _)⟩⟩, trivial⟩⟩⟩⟩⟩ rfl) (tp rfl (ok_build (rows := [(0, [_]), (1, [_]), (2, [_]), (3, [_]), (4, [_])]) rfl bl201 zo201 ⟨⟨rfl, (VL.le (vl rfl) (one_cellsP _))⟩, ⟨⟨rfl, (VL.le (vl rfl) (one_cellsP _))⟩, ⟨⟨rfl, (VL.le (vl rfl) (one_cellsP _))⟩, ⟨⟨rfl, ⟨_, rfl, Pr.le_trans (nil_slice 1) (one_cellsP _)⟩⟩, ⟨⟨rfl, ⟨_, rfl, Pr.le_trans (nil_slice 1) (one_cellsP _)⟩⟩, trivial⟩⟩⟩⟩⟩ rfl) (tp rfl (ok_build (rows := [(0, [_]), (1, [_]), (2, [_]), (3, [_]), (4, [_])]) rfl bl201 zo201 ⟨⟨rfl, (VL.le (vl rfl) (one_cellsP _))⟩, ⟨⟨rfl, (VL.le (vl rfl) (one_cellsP _))⟩, ⟨⟨rfl, (VL.le (vl rfl) (one_cellsP _))⟩, ⟨⟨rfl, ⟨_, rfl, Pr.le_trans (nil_slice 1) (one_cellsP _)⟩⟩, ⟨⟨rfl, ⟨_, rfl, Pr.le_trans (nil_slice 1) (one_cellsP _)⟩⟩, trivial⟩⟩⟩⟩⟩ rfl) (tp rfl (ok_buildSlice (xs := [.const (.int .i64 (512)), .const (.int .i64 (768)), .const (.int .i64 (1024))]) (rows := [[_], [_], [_]]) rfl rfl Tryz.underlying22 sz3 z3 rfl (by decide) ⟨⟨(by exact rfl), (VL.le (vl rfl) (one_cellsP _))⟩, ⟨⟨(by exact rfl), (VL.le (vl rfl) (one_cellsP _))⟩, ⟨⟨(by exact rfl), (VL.le (vl rfl) (one_cellsP _))⟩, trivial⟩⟩⟩ (by decide)) ?_))))
 refine tp rfl (ok_buildSlice (xs := [.const (.int .i64 (128)), .const (.int .i64 (192)), .const (.int .i64 (256))]) (rows := [[_], [_], [_]]) rfl rfl Tryz.underlying22 sz3 z3 rfl (by decide) ⟨⟨(by exact rfl), (VL.le (vl rfl) (one_cellsP _))⟩, ⟨⟨(by exact rfl), (VL.le (vl rfl) (one_cellsP _))⟩, ⟨⟨(by exact rfl), (VL.le (vl rfl) (one_cellsP _))⟩, trivial⟩⟩⟩ (by decide)) ?_
 refine tp rfl (ok_build (rows := [(0, [_]), (1, [_]), (2, [_]), (3, [_]), (4, [_])]) rfl bl201 zo201 ⟨⟨rfl, (VL.le (vl rfl) (one_cellsP _))⟩, ⟨⟨rfl, (VL.le (vl rfl) (one_cellsP _))⟩, ⟨⟨rfl, (VL.le (vl rfl) (one_cellsP _))⟩, ⟨⟨rfl, ⟨_, rfl, Pr.le_trans (full_le _ _) (one_cellsP _)⟩⟩, ⟨⟨rfl, ⟨_, rfl, Pr.le_trans (full_le _ _) (one_cellsP _)⟩⟩, trivial⟩⟩⟩⟩⟩ rfl) (tp rfl (ok_buildSlice (xs := [.const (.int .i64 (40)), .const (.int .i64 (128))]) (rows := [[_], [_]]) rfl rfl Tryz.underlying22 sz3 z3 rfl (by decide) ⟨⟨(by exact rfl), (VL.le (vl rfl) (one_cellsP _))⟩, ⟨⟨(by exact rfl), (VL.le (vl rfl) (one_cellsP _))⟩, trivial⟩⟩ (by decide)) ?_)
 refine tp rfl (ok_buildSlice (xs := [.const (.int .i64 (40)), .const (.int .i64 (60))]) (rows := [[_], [_]]) rfl rfl Tryz.underlying22 sz3 z3 rfl (by decide) ⟨⟨(by exact rfl), (VL.le (vl rfl) (one_cellsP _))⟩, ⟨⟨(by exact rfl), (VL.le (vl rfl) (one_cellsP _))⟩, trivial⟩⟩ (by decide)) ?_
 refine tp rfl (ok_build (rows := [(0, [_]), (1, [_]), (2, [_]), (3, [_]), (4, [_])]) rfl bl201 zo201 ⟨⟨rfl, (VL.le (vl rfl) (one_cellsP _))⟩, ⟨⟨rfl, (VL.le (vl rfl) (one_cellsP _))⟩, ⟨⟨rfl, (VL.le (vl rfl) (one_cellsP _))⟩, ⟨⟨rfl, ⟨_, rfl, Pr.le_trans (full_le _ _) (one_cellsP _)⟩⟩, ⟨⟨rfl, ⟨_, rfl, Pr.le_trans (full_le _ _) (one_cellsP _)⟩⟩, trivial⟩⟩⟩⟩⟩ rfl) (tp rfl (ok_buildSlice (xs := [.const (.int .i64 (112)), .const (.int .i64 (168))]) (rows := [[_], [_]]) rfl rfl Tryz.underlying22 sz3 z3 rfl (by decide) ⟨⟨(by exact rfl), (VL.le (vl rfl) (one_cellsP _))⟩, ⟨⟨(by exact rfl), (VL.le (vl rfl) (one_cellsP _))⟩, trivial⟩⟩ (by decide)) ?_)
 refine tp rfl (ok_buildSlice (xs := [.const (.int .i64 (80)), .const (.int .i64 (112))]) (rows := [[_], [_]]) rfl rfl Tryz.underlying22 sz3 z3 rfl (by decide) ⟨⟨(by exact rfl), (VL.le (vl rfl) (one_cellsP _))⟩, ⟨⟨(by exact rfl), (VL.le (vl rfl) (one_cellsP _))⟩, trivial⟩⟩ (by decide)) ?_
 refine tp rfl (ok_build (rows := [(0, [_]), (1, [_]), (2, [_]), (3, [_]), (4, [_])]) rfl bl201 zo201 ⟨⟨rfl, (VL.le (vl rfl) (one_cellsP _))⟩, ⟨⟨rfl, (VL.le (vl rfl) (one_cellsP _))⟩, ⟨⟨rfl, (VL.le (vl rfl) (one_cellsP _))⟩, ⟨⟨rfl, ⟨_, rfl, Pr.le_trans (full_le _ _) (one_cellsP _)⟩⟩, ⟨⟨rfl, ⟨_, rfl, Pr.le_trans (full_le _ _) (one_cellsP _)⟩⟩, trivial⟩⟩⟩⟩⟩ rfl) (tp rfl (ok_buildSlice (xs := [.const (.int .i64 (128)), .const (.int .i64 (256))]) (rows := [[_], [_]]) rfl rfl Tryz.underlying22 sz3 z3 rfl (by decide) ⟨⟨(by exact rfl), (VL.le (vl rfl) (one_cellsP _))⟩, ⟨⟨(by exact rfl), (VL.le (vl rfl) (one_cellsP _))⟩, trivial⟩⟩ (by decide)) ?_)
 refine tp rfl (ok_buildSlice (xs := [.const (.int .i64 (128)), .const (.int .i64 (256))]) (rows := [[_], [_]]) rfl rfl Tryz.underlying22 sz3 z3 rfl (by decide) ⟨⟨(by exact rfl), (VL.le (vl rfl) (one_cellsP _))⟩, ⟨⟨(by exact rfl), (VL.le (vl rfl) (one_cellsP _))⟩, trivial⟩⟩ (by decide)) ?_
 refine tp rfl (ok_build (rows := [(0, [_]), (1, [_]), (2, [_]), (3, [_]), (4, [_])]) rfl bl201 zo201 ⟨⟨rfl, (VL.le (vl rfl) (one_cellsP _))⟩, ⟨⟨rfl, (VL.le (vl rfl) (one_cellsP _))⟩, ⟨⟨rfl, (VL.le (vl rfl) (one_cellsP _))⟩, ⟨⟨rfl, ⟨_, rfl, Pr.le_trans (full_le _ _) (one_cellsP _)⟩⟩, ⟨⟨rfl, ⟨_, rfl, Pr.le_trans (full_le _ _) (one_cellsP _)⟩⟩, trivial⟩⟩⟩⟩⟩ rfl) (tp rfl (ok_buildSlice (xs := [.const (.int .i64 (128)), .const (.int .i64 (256))]) (rows := [[_], [_]]) rfl rfl Tryz.underlying22 sz3 z3 rfl (by decide) ⟨⟨(by exact rfl), (VL.le (vl rfl) (one_cellsP _))⟩, ⟨⟨(by exact rfl), (VL.le (vl rfl) (one_cellsP _))⟩, trivial⟩⟩ (by decide)) ?_)
 refine tp rfl (ok_buildSlice (xs := [.const (.int .i64 (128)), .const (.int .i64 (256))]) (rows := [[_], [_]]) rfl rfl Tryz.underlying22 sz3 z3 rfl (by decide) ⟨⟨(by exact rfl), (VL.le (vl rfl) (one_cellsP _))⟩, ⟨⟨(by exact rfl), (VL.le (vl rfl) (one_cellsP _))⟩, trivial⟩⟩ (by decide)) ?_
 refine tp rfl (ok_build (rows := [(0, [_]), (1, [_]), (2, [_]), (3, [_]), (4, [_])]) rfl bl201 zo201 ⟨⟨rfl, (VL.le (vl rfl) (one_cellsP _))⟩, ⟨⟨rfl, (VL.le (vl rfl) (one_cellsP _))⟩, ⟨⟨rfl, (VL.le (vl rfl) (one_cellsP _))⟩, ⟨⟨rfl, ⟨_, rfl, Pr.le_trans (full_le _ _) (one_cellsP _)⟩⟩, ⟨⟨rfl, ⟨_, rfl, Pr.le_trans (full_le _ _) (one_cellsP _)⟩⟩, trivial⟩⟩⟩⟩⟩ rfl) (tp rfl (ok_buildSlice (xs := [.const (.int .i64 (256))]) (rows := [[_]]) rfl rfl Tryz.underlying22 sz3 z3 rfl (by decide) ⟨⟨(by exact rfl), (VL.le (vl rfl) (one_cellsP _))⟩, trivial⟩ (by decide)) ?_)
 refine tp rfl (ok_build (rows := [(0, [_]), (1, [_]), (2, [_]), (3, [_]), (4, [_])]) rfl bl201 zo201 ⟨⟨rfl, (VL.le (vl rfl) (one_cellsP _))⟩, ⟨⟨rfl, (VL.le (vl rfl) (one_cellsP _))⟩, ⟨⟨rfl, (VL.le (vl rfl) (one_cellsP _))⟩, ⟨⟨rfl, ⟨_, rfl, Pr.le_trans (nil_slice 1) (one_cellsP _)⟩⟩, ⟨⟨rfl, ⟨_, rfl, Pr.le_trans (full_le _ _) (one_cellsP _)⟩⟩, trivial⟩⟩⟩⟩⟩ rfl) (tp rfl (ok_buildSlice (xs := [.const (.int .i64 (64))]) (rows := [[_]]) rfl rfl Tryz.underlying22 sz3 z3 rfl (by decide) ⟨⟨(by exact rfl), (VL.le (vl rfl) (one_cellsP _))⟩, trivial⟩ (by decide)) ?_)
 refine tp rfl (ok_build (rows := [(0, [_]), (1, [_]), (2, [_]), (3, [_]), (4, [_])]) rfl bl201 zo201 ⟨⟨rfl, (VL.le (vl rfl) (one_cellsP _))⟩, ⟨⟨rfl, (VL.le (vl rfl) (one_cellsP _))⟩, ⟨⟨rfl, (VL.le (vl rfl) (one_cellsP _))⟩, ⟨⟨rfl, ⟨_, rfl, Pr.le_trans (nil_slice 1) (one_cellsP _)⟩⟩, ⟨⟨rfl, ⟨_, rfl, Pr.le_trans (full_le _ _) (one_cellsP _)⟩⟩, trivial⟩⟩⟩⟩⟩ rfl) (tp rfl (ok_buildSlice (xs := [.const (.int .i64 (80))]) (rows := [[_]]) rfl rfl Tryz.underlying22 sz3 z3 rfl (by decide) ⟨⟨(by exact rfl), (VL.le (vl rfl) (one_cellsP _))⟩, trivial⟩ (by decide)) ?_)
 refine tp rfl (ok_build (rows := [(0, [_]), (1, [_]), (2, [_]), (3, [_]), (4, [_])]) rfl bl201 zo201 ⟨⟨rfl, (VL.le (vl rfl) (one_cellsP _))⟩, ⟨⟨rfl, (VL.le (vl rfl) (one_cellsP _))⟩, ⟨⟨rfl, (VL.le (vl rfl) (one_cellsP _))⟩, ⟨⟨rfl, ⟨_, rfl, Pr.le_trans (nil_slice 1) (one_cellsP _)⟩⟩, ⟨⟨rfl, ⟨_, rfl, Pr.le_trans (full_le _ _) (one_cellsP _)⟩⟩, trivial⟩⟩⟩⟩⟩ rfl) (tp rfl (ok_buildSlice (xs := [.const (.int .i64 (128))]) (rows := [[_]]) rfl rfl Tryz.underlying22 sz3 z3 rfl (by decide) ⟨⟨(by exact rfl), (VL.le (vl rfl) (one_cellsP _))⟩, trivial⟩ (by decide)) ?_)
 refine tp rfl (ok_build (rows := [(0, [_]), (1, [_]), (2, [_]), (3, [_]), (4, [_])]) rfl bl201 zo201 ⟨⟨rfl, (VL.le (vl rfl) (one_cellsP _))⟩, ⟨⟨rfl, (VL.le (vl rfl) (one_cellsP _))⟩, ⟨⟨rfl, (VL.le (vl rfl) (one_cellsP _))⟩, ⟨⟨rfl, ⟨_, rfl, Pr.le_trans (nil_slice 1) (one_cellsP _)⟩⟩, ⟨⟨rfl, ⟨_, rfl, Pr.le_trans (full_le _ _) (one_cellsP _)⟩⟩, trivial⟩⟩⟩⟩⟩ rfl) (tp rfl (ok_buildSlice (xs := [.const (.int .i64 (256))]) (rows := [[_]]) rfl rfl Tryz.underlying22 sz3 z3 rfl (by decide) ⟨⟨(by exact rfl), (VL.le (vl rfl) (one_cellsP _))⟩, trivial⟩ (by decide)) ?_)
 refine tp rfl (ok_build (rows := [(0, [_]), (1, [_]), (2, [_]), (3, [_]), (4, [_])]) rfl bl201 zo201 ⟨⟨rfl, (VL.le (vl rfl) (one_cellsP _))⟩, ⟨⟨rfl, (VL.le (vl rfl) (one_cellsP _))⟩, ⟨⟨rfl, (VL.le (vl rfl) (one_cellsP _))⟩, ⟨⟨rfl, ⟨_, rfl, Pr.le_trans (nil_slice 1) (one_cellsP _)⟩⟩, ⟨⟨rfl, ⟨_, rfl, Pr.le_trans (full_le _ _) (one_cellsP _)⟩⟩, trivial⟩⟩⟩⟩⟩ rfl) (tp rfl (ok_build (rows := [(1, _), (2, _), (3, _), (4, _), (5, _), (6, _), (7, _), (8, _), (9, _), (10, _), (11, _), (12, _), (13, _), (14, _), (15, _), (16, _), (17, _), (18, _), (19, _), (20, _), (21, _), (22, _)]) rfl bl237 zo237 ⟨⟨rfl, (VL.le (vl rfl) (agg_cellsP _))⟩, ⟨⟨rfl, (VL.le (vl rfl) (agg_cellsP _))⟩, ⟨⟨rfl, (VL.le (vl rfl) (agg_cellsP _))⟩, ⟨⟨rfl, (VL.le (vl rfl) (agg_cellsP _))⟩, ⟨⟨rfl, (VL.le (vl rfl) (agg_cellsP _))⟩, ⟨⟨rfl, (VL.le (vl rfl) (agg_cellsP _))⟩, ⟨⟨rfl, (VL.le (vl rfl) (agg_cellsP _))⟩, ⟨⟨rfl, (VL.le (vl rfl) (agg_cellsP _))⟩, ⟨⟨rfl, (VL.le (vl rfl) (agg_cellsP _))⟩, ⟨⟨rfl, (VL.le (vl rfl) (agg_cellsP _))⟩, ⟨⟨rfl, (VL.le (vl rfl) (agg_cellsP _))⟩, ⟨⟨rfl, (VL.le (vl rfl) (agg_cellsP _))⟩, ⟨⟨rfl, (VL.le (vl rfl) (agg_cellsP _))⟩, ⟨⟨rfl, (VL.le (vl rfl) (agg_cellsP _))⟩, ⟨⟨rfl, (VL.le (vl rfl) (agg_cellsP _))⟩, ⟨⟨rfl, (VL.le (vl rfl) (agg_cellsP _))⟩, ⟨⟨rfl, (VL.le (vl rfl) (agg_cellsP _))⟩, ⟨⟨rfl, (VL.le (vl rfl) (agg_cellsP _))⟩, ⟨⟨rfl, (VL.le (vl rfl) (agg_cellsP _))⟩, ⟨⟨rfl, (VL.le (vl rfl) (agg_cellsP _))⟩, ⟨⟨rfl, (VL.le (vl rfl) (agg_cellsP _))⟩, ⟨⟨rfl, (VL.le (vl rfl) (agg_cellsP _))⟩, trivial⟩⟩⟩⟩⟩⟩⟩⟩⟩⟩⟩⟩⟩⟩⟩⟩⟩⟩⟩⟩⟩⟩ rfl) (TO.store_all 0 rfl rfl rfl (vl rfl) (VL.le (vl rfl) (agg_cellsP _)) rfl sz237 rfl rfl (TO.nil (Fin.go (wk1 0 rfl (Tr.ret (Fin.retX1 rfl (RVal.cell 0 rfl rfl agg237 sz237 rfl (Pr.le_refl _)) ?_)))))))
 · exact agg_le ⟨Pr.le_refl _, Pr.le_refl _, Pr.le_refl _, nil_slice 1, nil_slice 1, Pr.le_refl _, Pr.le_refl _, Pr.le_refl _, Pr.le_refl _, Pr.le_refl _, Pr.le_refl _, Pr.le_refl _, Pr.le_refl _, Pr.le_refl _, Pr.le_refl _, Pr.le_refl _, Pr.le_refl _, Pr.le_refl _, Pr.le_refl _, Pr.le_refl _, Pr.le_refl _, Pr.le_refl _, Pr.le_refl _, Pr.le_refl _, Pr.le_refl _, Pr.le_refl _, Pr.le_refl _, Pr.le_refl _, Pr.le_refl _, Pr.le_refl _, Pr.le_refl _, Pr.le_refl _, Pr.le_refl _, Pr.le_refl _, Pr.le_refl _, Pr.le_refl _, Pr.le_refl _, Pr.le_refl _, Pr.le_refl _, Pr.le_refl _, Pr.le_refl _, Pr.le_refl _, Pr.le_refl _, Pr.le_refl _, Pr.le_refl _, Pr.le_refl _, Pr.le_refl _, Pr.le_refl _, Pr.le_refl _, Pr.le_refl _, Pr.le_refl _, Pr.le_refl _, Pr.le_refl _, Pr.le_refl _, Pr.le_refl _, Pr.le_refl _, Pr.le_refl _, Pr.le_refl _, Pr.le_refl _, Pr.le_refl _, Pr.le_refl _, Pr.le_refl _, Pr.le_refl _, Pr.le_refl _, Pr.le_refl _, Pr.le_refl _, Pr.le_refl _, Pr.le_refl _, Pr.le_refl _, Pr.le_refl _, Pr.le_refl _, Pr.le_refl _, Pr.le_refl _, Pr.le_refl _, Pr.le_refl _, Pr.le_refl _, Pr.le_refl _, Pr.le_refl _, Pr.le_refl _, Pr.le_refl _, Pr.le_refl _, Pr.le_refl _, Pr.le_refl _, Pr.le_refl _, Pr.le_refl _, Pr.le_refl _, Pr.le_refl _, Pr.le_refl _, Pr.le_refl _, Pr.le_refl _, Pr.le_refl _, Pr.le_refl _, Pr.le_refl _, Pr.le_refl _, Pr.le_refl _, Pr.le_refl _, Pr.le_refl _, Pr.le_refl _, Pr.le_refl _, Pr.le_refl _, Pr.le_refl _, Pr.le_refl _, Pr.le_refl _, Pr.le_refl _, Pr.le_refl _, Pr.le_refl _, Pr.le_refl _, Pr.le_refl _, Pr.le_refl _, Pr.le_refl _, Pr.le_refl _, Pr.le_refl _, Pr.le_refl _, Pr.le_refl _, Pr.le_refl _, trivial⟩
set_option maxRecDepth 20000 in
theorem w_of {alg : Int}  : Fun Tryz.prog 171 [int alg] (tup [agg (rowC (catOf alg)), bool (decide (1 ≤ alg ∧ alg ≤ 22))]) := by
 refine Fun.of Tryz.func171 rfl rfl (by exact Nat.le_of_ble_eq_true rfl) fun M0 w0 => ?_
 refine Tr.seq (Tr.regT ?_)
 refine TO.alloc rfl rfl (by decide) rfl z201 zo201 (fun b1 => ?_)
 refine tm rfl (TO.nil (Fin.go (Tr.seq (Tr.seq (Tr.reg0 (cm rfl (co rfl (ki rfl rfl rfl rfl) (cm rfl ?_))))))))
 refine Ch.cs 6 rfl ?_ ?_ <;> intro h1 q1
 refine cnf h1 rfl (cnf h1 rfl (co rfl (kpt rfl rfl h1 rfl) (Ch.nil (Fin.go (Tr.cond rfl (fun _ => ?_) (fun h => nomatch h))))))
 refine Tr.seq (Tr.regT (tp rfl (ok_build (rows := []) rfl bl201 zo201 trivial rfl) (TO.store_all 0 rfl rfl rfl (vl rfl) (VL.le (vl rfl) (agg_cellsP _)) rfl sz201 rfl rfl (tm rfl (TO.nil (Fin.go (Tr.ret (Fin.then_ret (Fin.retX2 rfl (RVal.cell 0 rfl rfl agg201 sz201 rfl (Pr.le_refl _)) (RVal.tmp rfl (Pr.le_refl _)) ?_)))))))))
 · refine tup_le ⟨?_, bool_eq (by symm; rw [decide_eq_false_iff_not]; omega), trivial⟩; unfold catOf; rw [if_neg (by omega)]; exact agg_le ⟨Pr.le_refl _, Pr.le_refl _, Pr.le_refl _, nil_slice 1, nil_slice 1, trivial⟩
 refine cym h1 rfl (cy h1 rfl (ki rfl rfl rfl rfl) (co rfl (kpf rfl rfl h1 rfl) (Ch.nil (Fin.go ?_))))
 refine Tr.cn rfl ?_ ?_ <;> intro h2 q2
 refine Tr.seq (Tr.regT (tp rfl (ok_build (rows := []) rfl bl201 zo201 trivial rfl) (TO.store_all 0 rfl rfl rfl (vl rfl) (VL.le (vl rfl) (agg_cellsP _)) rfl sz201 rfl rfl (tm rfl (TO.nil (Fin.go (Tr.ret (Fin.then_ret (Fin.retX2 rfl (RVal.cell 0 rfl rfl agg201 sz201 rfl (Pr.le_refl _)) (RVal.tmp rfl (Pr.le_refl _)) ?_)))))))))
 · refine tup_le ⟨?_, bool_eq (by symm; rw [decide_eq_false_iff_not]; omega), trivial⟩; unfold catOf; rw [if_neg (by omega)]; exact agg_le ⟨Pr.le_refl _, Pr.le_refl _, Pr.le_refl _, nil_slice 1, nil_slice 1, trivial⟩
 have hin : 1 ≤ alg ∧ alg ≤ 22 := by omega
 refine Tr.skip (Fin.go (Tr.seq (Tr.regT (tp rfl (ok_call rfl (w_rows) trivial) (tm rfl (tp rfl (ok_index rfl Tryz.underlying237 agg201 sz201 (vl rfl) (vl rfl) (by omega) (by omega) (flat_row (f := rowC) (fun _ => rfl) (catTable_at hin))) (TO.store_all 0 rfl rfl rfl (vl rfl) (VL.le (vl rfl) (agg_cellsP _)) rfl sz201 rfl rfl (tm rfl (TO.nil (Fin.go (Tr.ret (Fin.retX2 rfl (RVal.cell 0 rfl rfl agg201 sz201 rfl (Pr.le_refl _)) (RVal.tmp rfl (Pr.le_refl _)) ?_))))))))))))
 · exact tup_le ⟨Pr.le_refl _, bool_eq (by symm; rw [decide_eq_true_eq]; exact hin), trivial⟩
set_option maxRecDepth 20000 in
theorem w_Kind {alg : Int}  : Fun Tryz.prog 133 [int alg] (int (catOf alg).kind) := by
 refine Fun.of Tryz.func133 rfl rfl (by exact Nat.le_of_ble_eq_true rfl) fun M0 w0 => ?_
 refine Tr.seq (Tr.reg0 (cm rfl (Ch.nil (Fin.go (Tr.seq (Tr.regT (tm rfl (tp rfl (ok_call rfl (w_of) ⟨ke rfl, trivial⟩) (tm rfl (tp rfl (ok_extract rfl (vl rfl) rfl) (tp rfl (ok_extract rfl (vl rfl) rfl) ?_)))))))))))
 refine TO.alloc rfl rfl (by decide) rfl z201 zo201 (fun b1 => ?_)
 refine TO.store_all 0 rfl rfl rfl (vl rfl) (VL.le (vl rfl) (agg_cellsP _)) rfl sz201 rfl rfl (TO.freeze 0 3 rfl rfl (tm rfl (TO.nil (Fin.go (Tr.seq (Tr.reg0 (co rfl (kfa rfl fo201_1 rfl rfl) (co rfl (kl1 rfl one3 rfl) (cm rfl (Ch.nil (Fin.go (Tr.ret (Fin.ret1 rfl (OutW.bse _ _) rfl ?_)))))))))))))
 · exact Pr.le_refl _
set_option maxRecDepth 20000 in
theorem w_modulus {b : Int}  : Fun Tryz.prog 220 [int b] (int (modI b)) := by
 refine Fun.of Tryz.func220 rfl rfl (by exact Nat.le_of_ble_eq_true rfl) fun M0 w0 => ?_
 have hml : mods.length = 5 := rfl
 refine Tr.seq (Tr.reg0 (cm rfl (Ch.nil (Fin.go (Tr.seq (Tr.seq (Tr.reg0 ?_)))))))
 iterate 5 refine co rfl (ok_build (rows := [(0, [_]), (1, [_])]) rfl bl259 zo259 ⟨⟨rfl, (VL.le (vl rfl) (one_cellsP _))⟩, ⟨⟨rfl, (VL.le (vl rfl) (one_cellsP _))⟩, trivial⟩⟩ rfl) ?_
 refine co rfl (ok_build (rows := [(0, _), (1, _), (2, _), (3, _), (4, _)]) rfl bl260 zo260 ⟨⟨rfl, (VL.le (vl rfl) (agg_cellsP _))⟩, ⟨⟨rfl, (VL.le (vl rfl) (agg_cellsP _))⟩, ⟨⟨rfl, (VL.le (vl rfl) (agg_cellsP _))⟩, ⟨⟨rfl, (VL.le (vl rfl) (agg_cellsP _))⟩, ⟨⟨rfl, (VL.le (vl rfl) (agg_cellsP _))⟩, trivial⟩⟩⟩⟩⟩ rfl) (cm rfl (Ch.nil (Fin.go (Tr.block (Tr.re 10 rfl (Pr.le_of_eq (show _ = agg (mods.flatMap fun p => [int p.1, int p.2]) from rfl)) (Tr.loopw [(0, _), (10, _)] (kk2 rfl) (fun k : Nat => [(11, int ((k : Nat) : Int))]) (fun k : Nat => k ≤ (mods).length ∧ (modI b = modF (mods.drop k) b)) (fun k : Nat => (mods).length - k) 0 (⟨Nat.zero_le _, rfl⟩) ⟨ke rfl, trivial⟩ ?_))))))
 rintro k ⟨hle_k, hinv_k⟩
 refine Tr.seq (Tr.reg0 (co rfl (ki rfl rfl rfl rfl) (Ch.nil (Fin.go (Tr.seq ?_)))))
 refine Tr.cn rfl ?_ ?_ <;> intro h1 q1
 have hk_k : k < (mods).length := lt_of_dec h1
 obtain ⟨p, hx_k⟩ := at_ hk_k
 have hL : k < 5 := hk_k
 have hdr := drop_cons hx_k
 refine Tr.skip (Fin.go (Tr.seq (Tr.block (Tr.seq (Tr.regT (tp rfl (ok_index rfl Tryz.underlying260 agg259 sz259 (vl rfl) (vl rfl) (by omega) (by omega) (flat_row (f := fun p : Int × Int => [int p.1, int p.2]) (fun _ => rfl) hx_k)) ?_))))))
 refine TO.alloc rfl rfl (by decide) rfl z259 zo259 (fun b1 => ?_)
 refine TO.store_all 0 rfl rfl rfl (vl rfl) (VL.le (vl rfl) (agg_cellsP _)) rfl sz259 rfl rfl (TO.freeze 0 4 rfl rfl (TO.nil (Fin.go (Tr.seq (Tr.reg0 (cm rfl (co rfl (ok_indexArr rfl Tryz.underlying259 sz3 (vl rfl) (vl rfl) (by omega) (by omega) rfl) (co rfl (ok_load_hd rfl one3 (vl rfl) rfl) (co rfl (ki rfl rfl rfl rfl) (Ch.nil (Fin.go ?_)))))))))))
 refine Tr.cn rfl ?_ ?_ <;> intro h2 q2
 refine Tr.seq (Tr.reg0 (co rfl (ok_indexArr rfl Tryz.underlying259 sz3 (vl rfl) (vl rfl) (by omega) (by omega) rfl) (co rfl (ok_load_hd rfl one3 (vl rfl) rfl) (cm rfl (Ch.nil (Fin.go (wk1 2 rfl (Tr.ret (Fin.block_ret (Fin.then_ret (Fin.then_ret (Fin.block_ret (Fin.then_ret (Fin.ret1 rfl (OutW.bse _ _) rfl ?_))))))))))))))
 · refine int_eq ?_; rw [hinv_k, hdr]; exact (if_pos (by omega)).symm
 refine Tr.skip (Fin.block (Fin.go (Tr.reg0 (cad rfl rfl rfl rfl (by omega) (cm rfl (Ch.nil ?_))))))
 exact Fin.fam_same (k + 1) ⟨⟨hk_k, (by rw [hinv_k, hdr]; exact if_neg (by omega))⟩, by omega⟩ ⟨⟨_, rfl, int_succ k⟩, ke rfl, ke rfl, trivial⟩
 have he_k : k = (mods).length := by have := ge_of_dec h1; omega
 subst he_k
 refine Tr.exit (Fin.then_exit (Fin.then_exit (Fin.block_here (Fin.go (Tr.seq (Tr.reg0 (cm rfl (Ch.nil (Fin.go (Tr.ret (Fin.ret1 rfl (OutW.bse _ _) rfl ?_)))))))))))
 · refine int_eq ?_; rw [hinv_k, List.drop_length]; rfl
end Go.Proofs.YtflodcidhlmaaaaGreat
namespace Go.Proofs.YtflodcidhlmaaaaGreat
open Go Go.RowKit Cp

def curvs : List Int := [160, 224, 256, 384, 521]
def strength (alg bits : Int) : Int :=
  if 1 ≤ alg ∧ alg ≤ 22 then
    if (catOf alg).way = 0 then (if bits = 0 then ((catOf alg).strengths[0]?).getD 0 else 0)
    else if (catOf alg).way = 1 then (if 512 ≤ bits ∧ bits ≤ 16384 then modI bits else 0)
    else if (catOf alg).way = 2 then (if (curvs.any fun x => bits == x) = true then bits.tdiv 2 else 0)
    else if (catOf alg).way = 3 then (if 0 ≤ idx (fun x => bits == x) (catOf alg).sizes then ((catOf alg).strengths[(idx (fun x => bits == x) (catOf alg).sizes).toNat]?).getD 0 else 0)
    else 0
  else 0
theorem catOf_tail {alg : Int} (h : 1 ≤ alg ∧ alg ≤ 22) : catOf alg ∈ catTable.tail := by
  have h1 := catTable_at h
  refine List.mem_of_getElem? (i := alg.toNat - 1) ?_
  rw [List.getElem?_tail, show alg.toNat - 1 + 1 = alg.toNat by omega]; exact h1
theorem cat_ok : ∀ r ∈ catTable.tail, (r.way = 0 → 1 ≤ r.strengths.length) ∧ (r.way = 3 → r.sizes.length ≤ r.strengths.length) := by decide
theorem idx_lt {β : Type} (p : β → Bool) (l : List β) : idx p l < l.length := by
  unfold idx
  cases h : l.findIdx? p with
  | none => simp; omega
  | some i => rw [List.findIdx?_eq_some_iff_getElem] at h; obtain ⟨h1, _⟩ := h; simp; omega

set_option maxRecDepth 20000 in
theorem w_Strength {alg bits : Int}  : Fun Tryz.prog 170 [agg [int alg, int bits]] (int (strength alg bits)) := by
 refine Fun.of Tryz.func170 rfl rfl (by exact Nat.le_of_ble_eq_true rfl) fun M0 w0 => ?_
 refine Tr.seq (Tr.reg0 (co rfl (ok_box rfl (VL.le (vl rfl) (agg_cellsP _))) (cm rfl (Ch.nil (Fin.go (Tr.seq (Tr.regT (tp rfl (kfa rfl fo44_0 rfl rfl) (tp rfl (kl1 rfl one3 rfl) (tp rfl (ok_call rfl (w_of) ⟨ke rfl, trivial⟩) (tm rfl (tp rfl (ok_extract rfl (vl rfl) rfl) (tp rfl (ok_extract rfl (vl rfl) rfl) ?_)))))))))))))
 refine TO.alloc rfl rfl (by decide) rfl z201 zo201 (fun b1 => ?_)
 refine TO.store_all 0 rfl rfl rfl (vl rfl) (VL.le (vl rfl) (agg_cellsP _)) rfl sz201 rfl rfl (TO.freeze 0 3 rfl rfl (tm rfl (TO.nil (Fin.go (Tr.seq (Tr.seq (Tr.reg0 (cm rfl (co rfl (ok_not rfl (vl rfl)) (Ch.nil (Fin.go (wk3 1 3 13 rfl ?_))))))))))))
 refine Tr.cn rfl ?_ ?_ <;> intro h1 q1
 refine Tr.seq (Tr.reg0 (cm rfl (Ch.nil (Fin.go (Tr.ret (Fin.then_ret (Fin.ret1 rfl (OutW.bse _ _) rfl ?_)))))))
 · refine int_eq ?_; unfold strength; rw [if_neg (by intro hh; simp [hh] at h1)]
 have hin : 1 ≤ alg ∧ alg ≤ 22 := by simpa using h1
 obtain ⟨hc0, hc3⟩ := cat_ok _ (catOf_tail hin)
 refine Tr.skip (Fin.go (Tr.seq (Tr.seq (Tr.reg0 (co rfl (kfa rfl fo201_2 rfl rfl) (co rfl (kl1 rfl one3 rfl) (Ch.nil (Fin.go (Tr.block (Tr.seq (Tr.reg0 (co rfl (ki rfl rfl rfl rfl) (cm rfl ?_)))))))))))))
 refine Ch.nil (Fin.go ?_)
 refine Tr.cn rfl ?_ ?_ <;> intro h2 q2
 refine Tr.seq (Tr.reg0 (co rfl (kfa rfl fo44_1 rfl rfl) (co rfl (kl1 rfl one3 rfl) (co rfl (ki rfl rfl rfl rfl) (Ch.nil (Fin.go ?_))))))
 refine Tr.cn rfl ?_ ?_ <;> intro h3 q3
 obtain ⟨z, hz⟩ := at_ (l := (catOf alg).strengths) (k := 0) (hc0 (by omega))
 refine Tr.seq (Tr.reg0 (co rfl (kfa rfl fo201_4 rfl rfl) (co rfl (kl1 rfl one22 rfl) ?_)))
 refine co rfl (ok_indexAddr rfl Tryz.underlying22 sz3 (vl rfl) (vl rfl) (by omega) (row_at (k := 0) hz)) ?_
 refine co rfl (kl1 rfl one3 rfl) (cm rfl (Ch.nil (Fin.go (wk1 2 rfl (Tr.ret (Fin.block_ret (Fin.then_ret (Fin.ret1 rfl (OutW.bse _ _) rfl ?_))))))))
 · refine int_eq ?_; unfold strength; rw [if_pos hin, if_pos (by omega), if_pos (by omega), hz]; rfl
 refine Tr.skip (Fin.block (Fin.go (Tr.seq (Tr.reg0 (cm rfl (Ch.nil (Fin.go (Tr.ret (Fin.ret1 rfl (OutW.bse _ _) rfl ?_)))))))))
 · refine int_eq ?_; unfold strength; rw [if_pos hin, if_pos (by omega), if_neg (by omega)]
 refine Tr.seq (Tr.reg0 (co rfl (ki rfl rfl rfl rfl) (cm rfl (Ch.nil (Fin.go ?_)))))
 refine Tr.cn rfl ?_ ?_ <;> intro h4 q4
 refine Tr.seq (Tr.reg0 (co rfl (kfa rfl fo44_1 rfl rfl) (co rfl (kl1 rfl one3 rfl) (co rfl (ki rfl rfl rfl rfl) (cm rfl ?_)))))
 refine Ch.cs 30 rfl ?_ ?_ <;> intro h5 q5
 refine cy h5 rfl (kfa rfl fo44_1 rfl rfl) (cy h5 rfl (kl1 rfl one3 rfl) (cy h5 rfl (ki rfl rfl rfl rfl) (co rfl (kpt rfl rfl h5 rfl) (Ch.nil (Fin.go (wk2 1 34 rfl ?_))))))
 refine Tr.cn rfl ?_ ?_ <;> intro h6 q6
 refine Tr.seq (Tr.reg0 (co rfl (kfa rfl fo44_1 rfl rfl) (co rfl (kl1 rfl one3 rfl) (co rfl (ok_call rfl (w_modulus) ⟨ke rfl, trivial⟩) (cm rfl (Ch.nil (Fin.go (Tr.ret (Fin.block_ret (Fin.then_ret (Fin.ret1 rfl (OutW.bse _ _) rfl ?_)))))))))))
 · refine int_eq ?_; unfold strength; rw [if_pos hin, if_neg (by omega), if_pos (by omega), if_pos (by omega)]
 refine Tr.skip (Fin.block (Fin.go (Tr.seq (Tr.reg0 (cm rfl (Ch.nil (Fin.go (Tr.ret (Fin.ret1 rfl (OutW.bse _ _) rfl ?_)))))))))
 · refine int_eq ?_; unfold strength; rw [if_pos hin, if_neg (by omega), if_pos (by omega), if_neg (by omega)]
 refine cnt h5 rfl (cnt h5 rfl (cnt h5 rfl (co rfl (kpf rfl rfl h5 rfl) (Ch.nil (Fin.go (wk2 1 34 rfl (Tr.cond rfl (fun h => nomatch h) (fun _ => ?_))))))))
 refine Tr.skip (Fin.block (Fin.go (Tr.seq (Tr.reg0 (cm rfl (Ch.nil (Fin.go (Tr.ret (Fin.ret1 rfl (OutW.bse _ _) rfl ?_)))))))))
 · refine int_eq ?_; unfold strength; rw [if_pos hin, if_neg (by omega), if_pos (by omega), if_neg (by omega)]
 refine Tr.seq (Tr.reg0 (co rfl (ki rfl rfl rfl rfl) (cm rfl (Ch.nil (Fin.go ?_)))))
 refine Tr.cn rfl ?_ ?_ <;> intro h7 q7
 refine Tr.seq (Tr.reg0 (co rfl (ok_buildSlice (xs := [.const (.int .i64 (160)), .const (.int .i64 (224)), .const (.int .i64 (256)), .const (.int .i64 (384)), .const (.int .i64 (521))]) (rows := [[_], [_], [_], [_], [_]]) rfl rfl Tryz.underlying22 sz3 z3 rfl (by decide) ⟨⟨(by exact rfl), (VL.le (vl rfl) (one_cellsP _))⟩, ⟨⟨(by exact rfl), (VL.le (vl rfl) (one_cellsP _))⟩, ⟨⟨(by exact rfl), (VL.le (vl rfl) (one_cellsP _))⟩, ⟨⟨(by exact rfl), (VL.le (vl rfl) (one_cellsP _))⟩, ⟨⟨(by exact rfl), (VL.le (vl rfl) (one_cellsP _))⟩, trivial⟩⟩⟩⟩⟩ (by decide)) ?_))
 refine co rfl (kfa rfl fo44_1 rfl rfl) (co rfl (kl1 rfl one3 rfl) ?_)
 refine co rfl (ok_call rfl (w_ContainsI (l := curvs)) ⟨⟨_, rfl, full_le _ _⟩, ke rfl, trivial⟩) ?_
 refine Ch.nil (Fin.go (wk2 1 43 rfl ?_))
 refine Tr.cn rfl ?_ ?_ <;> intro h8 q8
 have hb : bits = 160 ∨ bits = 224 ∨ bits = 256 ∨ bits = 384 ∨ bits = 521 := by simpa [curvs] using h8
 refine Tr.seq (Tr.reg0 (co rfl (kfa rfl fo44_1 rfl rfl) (co rfl (kl1 rfl one3 rfl) (co rfl (ok_quo rfl (vl rfl) (vl rfl) (by omega)) (cm rfl (Ch.nil (Fin.go (Tr.ret (Fin.block_ret (Fin.then_ret (Fin.ret1 rfl (OutW.bse _ _) rfl ?_)))))))))))
 · refine int_eq ?_; unfold strength; rw [if_pos hin, if_neg (by omega), if_neg (by omega), if_pos (by omega), if_pos (by assumption)]; rcases hb with h | h | h | h | h <;> rw [h] <;> rfl
 refine Tr.skip (Fin.block (Fin.go (Tr.seq (Tr.reg0 (cm rfl (Ch.nil (Fin.go (Tr.ret (Fin.ret1 rfl (OutW.bse _ _) rfl ?_)))))))))
 · refine int_eq ?_; unfold strength; rw [if_pos hin, if_neg (by omega), if_neg (by omega), if_pos (by omega), if_neg (ne_true (by assumption))]
 refine Tr.seq (Tr.reg0 (co rfl (ki rfl rfl rfl rfl) (cm rfl (Ch.nil (Fin.go ?_)))))
 refine Tr.cn rfl ?_ ?_ <;> intro h9 q9
 refine Tr.seq (Tr.reg0 (co rfl (kfa rfl fo201_3 rfl rfl) (co rfl (kl1 rfl one22 rfl) (co rfl (kfa rfl fo44_1 rfl rfl) (co rfl (kl1 rfl one3 rfl) (co rfl (ok_call rfl (w_IndexI) ⟨ke rfl, ke rfl, trivial⟩) (cm rfl (Ch.nil (Fin.go (wk2 3 5 rfl (Tr.seq (Tr.reg0 (cm rfl ?_)))))))))))))
 refine co rfl (ki rfl rfl rfl rfl) (Ch.nil (Fin.go ?_))
 refine Tr.cn rfl ?_ ?_ <;> intro h10 q10
 have hlt := idx_lt (fun x => bits == x) (catOf alg).sizes
 obtain ⟨z, hz⟩ := at_ (l := (catOf alg).strengths) (k := (idx (fun x => bits == x) (catOf alg).sizes).toNat) (by have := hc3 (by omega); omega)
 refine Tr.seq (Tr.reg0 (co rfl (kfa rfl fo201_4 rfl rfl) (co rfl (kl1 rfl one22 rfl) (cm rfl (co rfl (ok_indexAddr rfl Tryz.underlying22 sz3 (vl rfl) (vl rfl) (by omega) (row_atI hz)) (co rfl (kl1 rfl one3 rfl) (cm rfl (Ch.nil (Fin.go (Tr.ret (Fin.block_ret (Fin.then_ret (Fin.ret1 rfl (OutW.bse _ _) rfl ?_)))))))))))))
 · refine int_eq ?_; unfold strength; rw [if_pos hin, if_neg (by omega), if_neg (by omega), if_neg (by omega), if_pos (by omega), if_pos (by assumption), hz]; rfl
 refine Tr.skip (Fin.block (Fin.go (Tr.seq (Tr.reg0 (cm rfl (Ch.nil (Fin.go (Tr.ret (Fin.ret1 rfl (OutW.bse _ _) rfl ?_)))))))))
 · refine int_eq ?_; unfold strength; rw [if_pos hin, if_neg (by omega), if_neg (by omega), if_neg (by omega), if_pos (by omega), if_neg (by omega)]
 refine Tr.skip (Fin.block (Fin.go (Tr.seq (Tr.reg0 (cm rfl (Ch.nil (Fin.go (wk1 2 rfl (Tr.ret (Fin.ret1 rfl (OutW.bse _ _) rfl ?_))))))))))
 · refine int_eq ?_; unfold strength; rw [if_pos hin, if_neg (by omega), if_neg (by omega), if_neg (by omega), if_neg (by omega)]
set_option maxRecDepth 20000 in
theorem w_Valid {alg bits : Int}  : Fun Tryz.prog 132 [agg [int alg, int bits]] (bool (decide (strength alg bits > 0))) := by
 refine Fun.of Tryz.func132 rfl rfl (by exact Nat.le_of_ble_eq_true rfl) fun M0 w0 => ?_
 refine Tr.seq (Tr.reg0 (co rfl (ok_box rfl (VL.le (vl rfl) (agg_cellsP _))) (cm rfl (Ch.nil (Fin.go (Tr.seq (Tr.reg0 (co rfl (ok_loadA rfl agg44 sz44 (vl rfl) rfl rfl) (co rfl (ok_call rfl (w_Strength) ⟨ke rfl, trivial⟩) (co rfl (ki rfl rfl rfl rfl) (cm rfl (Ch.nil (Fin.go (Tr.ret ?_))))))))))))))
 refine Fin.ret1 rfl (OutW.bse _ _) rfl ?_
 · exact Pr.le_refl _
end Go.Proofs.YtflodcidhlmaaaaGreat
namespace Go.Proofs.YtflodcidhlmaaaaGreat
open Go Go.RowKit Cp

def amongI (b : Int) (l m : List Int) : Int := if 0 ≤ idx (fun x => b == x) l then (m[(idx (fun x => b == x) l).toNat]?).getD 0 else 0
theorem among_hit {b : Int} {l m : List Int} {k : Nat} {x z : Int} (hx : l[k]? = some x) (he : x = b) (hz : m[k]? = some z) (h : ∀ j y, j < k → l[j]? = some y → (b == y) = false) : z = amongI b l m := by
  have := idx_found (p := fun x => b == x) hx (by simp [he]) h
  unfold amongI; rw [← this, if_pos (by omega), Int.toNat_natCast, hz]; rfl
theorem among_none {b : Int} {l m : List Int} (h : ∀ j y, j < l.length → l[j]? = some y → (b == y) = false) : 0 = amongI b l m := by
  have := idx_none (p := fun x => b == x) h
  unfold amongI; rw [← this, if_neg (by omega)]
def singleI (alg : Int) : Int := if alg = 1 then 18 else if alg = 2 then 60 else if alg = 3 ∨ alg = 8 ∨ alg = 21 then 128 else if alg = 4 then 192 else if alg = 18 ∨ alg = 22 then 256 else if alg = 19 then 64 else if alg = 20 then 80 else 0
def rmodI (b : Int) : Int := if b < 512 ∨ b > 16384 then 0 else if b < 1024 then 56 else if b < 2048 then 80 else if b < 3072 then 112 else if b < 7680 then 128 else if b < 15360 then 192 else 256
theorem rmodI_eq (b : Int) : rmodI b = if 512 ≤ b ∧ b ≤ 16384 then modI b else 0 := by
  have h1 : modI b = if b < 1024 then 56 else if b < 2048 then 80 else if b < 3072 then 112 else if b < 7680 then 128 else if b < 15360 then 192 else 256 := rfl
  rw [h1]; unfold rmodI
  by_cases h : 512 ≤ b ∧ b ≤ 16384
  · rw [if_pos h, if_neg (by omega)]
  · rw [if_neg h, if_pos (by omega)]

set_option maxRecDepth 20000 in
theorem w_among {b : Int} {l m : List Int} (hl : l.length ≤ m.length) : Fun Tryz.prog 231 [int b, ints l, ints m] (int (amongI b l m)) := by
 refine Fun.of Tryz.func231 rfl rfl (by exact Nat.le_of_ble_eq_true rfl) fun M0 w0 => ?_
 refine Tr.lenm 1 rfl fun hlm_1 => (Tr.seq (Tr.reg0 (cm rfl (Ch.nil (Fin.go (Tr.seq (Tr.seq (Tr.reg0 (cm rfl (Ch.nil (Fin.go (Tr.block (Tr.loopw [(0, _), (1, _), (2, _)] (kk3 rfl) (fun k : Nat => [(7, int ((k : Nat) : Int))]) (fun k : Nat => k ≤ (l).length ∧ (∀ j y, j < k → l[j]? = some y → (b == y) = false)) (fun k : Nat => (l).length - k) 0 (⟨Nat.zero_le _, fun j y hj => absurd hj (by omega)⟩) ⟨ke rfl, trivial⟩ ?_)))))))))))))
 rintro k ⟨hle_k, hinv_k⟩
 refine Tr.seq (Tr.seq (Tr.reg0 (cm rfl (cm rfl (co rfl (ok_lenm rfl Tryz.underlying22 (vl rfl)) (co rfl (ki rfl rfl rfl rfl) (Ch.nil (Fin.go ?_))))))))
 refine Tr.cn rfl ?_ ?_ <;> intro h1 q1
 have hk_k : k < (l).length := lt_of_dec h1
 obtain ⟨x, hx_k⟩ := at_ hk_k
 obtain ⟨z, hz⟩ := at_ (l := m) (k := k) (by omega)
 refine Tr.skip (Fin.go (Tr.seq (Tr.block (Tr.seq (Tr.reg0 (cm rfl (cm rfl (co rfl (ok_indexAddr rfl Tryz.underlying22 sz3 (vl rfl) (vl rfl) (by omega) (by exact row_at (by assumption))) ?_))))))))
 refine co rfl (kl1 rfl one3 rfl) (cm rfl (co rfl (ki rfl rfl rfl rfl) (Ch.nil (Fin.go (wk5 0 1 2 7 19 rfl ?_)))))
 refine Tr.cn rfl ?_ ?_ <;> intro h2 q2
 refine Tr.seq (Tr.reg0 (cm rfl (cm rfl (co rfl (ok_indexAddr rfl Tryz.underlying22 sz3 (vl rfl) (vl rfl) (by omega) (by exact row_at (by assumption))) ?_))))
 refine co rfl (kl1 rfl one3 rfl) (cm rfl (Ch.nil (Fin.go (Tr.ret (Fin.block_ret (Fin.then_ret (Fin.then_ret (Fin.block_ret (Fin.then_ret (Fin.ret1 rfl (OutW.bse _ _) rfl ?_))))))))))
 · exact int_eq (among_hit hx_k (by assumption) hz hinv_k)
 refine Tr.skip (Fin.block (Fin.go (Tr.reg0 (cm rfl (cad rfl rfl rfl rfl (by omega) (cm rfl (Ch.nil ?_)))))))
 exact Fin.fam_same (k + 1) ⟨⟨hk_k, step_no (p := fun x => b == x) hx_k (by simp; omega) hinv_k⟩, by omega⟩ ⟨⟨_, rfl, int_succ k⟩, ke rfl, ke rfl, ke rfl, trivial⟩
 have he_k : k = (l).length := by have := ge_of_dec h1; omega
 subst he_k
 refine Tr.exit (Fin.then_exit (Fin.then_exit (Fin.block_here (Fin.go (Tr.seq (Tr.reg0 (cm rfl (Ch.nil (Fin.go (Tr.ret (Fin.ret1 rfl (OutW.bse _ _) rfl ?_)))))))))))
 · exact int_eq (among_none hinv_k)
set_option maxRecDepth 20000 in
theorem w_single {alg : Int}  : Fun Tryz.prog 232 [int alg] (int (singleI alg)) := by
 refine Fun.of Tryz.func232 rfl rfl (by exact Nat.le_of_ble_eq_true rfl) fun M0 w0 => ?_
 refine Tr.seq (Tr.reg0 (cm rfl (Ch.nil (Fin.go (Tr.seq (Tr.seq (Tr.reg0 (cm rfl (Ch.nil (Fin.go (Tr.block (Tr.seq (Tr.reg0 ?_)))))))))))))
 refine co rfl (ki rfl rfl rfl rfl) (cm rfl (Ch.nil (Fin.go ?_)))
 refine Tr.cn rfl ?_ ?_ <;> intro h1 q1
 refine Tr.seq (Tr.reg0 (cm rfl (Ch.nil (Fin.go (Tr.ret (Fin.block_ret (Fin.then_ret (Fin.ret1 rfl (OutW.bse _ _) rfl ?_))))))))
 · refine int_eq ?_; unfold singleI; (repeat (rw [if_pos (by omega)]))
 refine Tr.seq (Tr.reg0 (co rfl (ki rfl rfl rfl rfl) (cm rfl (Ch.nil (Fin.go ?_)))))
 refine Tr.cn rfl ?_ ?_ <;> intro h2 q2
 refine Tr.seq (Tr.reg0 (cm rfl (Ch.nil (Fin.go (Tr.ret (Fin.block_ret (Fin.then_ret (Fin.ret1 rfl (OutW.bse _ _) rfl ?_))))))))
 · refine int_eq ?_; unfold singleI; (repeat (first | rw [if_pos (by omega)] | rw [if_neg (by omega)]))
 refine Tr.seq (Tr.seq (Tr.reg0 (co rfl (ki rfl rfl rfl rfl) (cm rfl (Ch.nil (Fin.go ?_))))))
 refine Tr.cn rfl ?_ ?_ <;> intro h3 q3
 refine Tr.skip (Fin.go (Tr.cond rfl (fun _ => ?_) (fun h => nomatch h3.symm.trans h)))
 refine Tr.seq (Tr.reg0 (cm rfl (Ch.nil (Fin.go (Tr.ret (Fin.block_ret (Fin.then_ret (Fin.ret1 rfl (OutW.bse _ _) rfl ?_))))))))
 · refine int_eq ?_; unfold singleI; (repeat (first | rw [if_pos (by omega)] | rw [if_neg (by omega)]))
 refine Tr.seq (Tr.reg0 (co rfl (ki rfl rfl rfl rfl) (cm rfl (Ch.nil (Fin.go ?_)))))
 refine Tr.cn rfl ?_ ?_ <;> intro h4 q4
 refine Tr.skip (Fin.go (Tr.cond rfl (fun _ => ?_) (fun h => nomatch h4.symm.trans h)))
 refine Tr.seq (Tr.reg0 (cm rfl (Ch.nil (Fin.go (Tr.ret (Fin.block_ret (Fin.then_ret (Fin.ret1 rfl (OutW.bse _ _) rfl ?_))))))))
 · refine int_eq ?_; unfold singleI; (repeat (first | rw [if_pos (by omega)] | rw [if_neg (by omega)]))
 refine Tr.reg0 (co rfl (ki rfl rfl rfl rfl) (cm rfl (Ch.nil (Fin.go ?_))))
 refine Tr.cn rfl ?_ ?_ <;> intro h5 q5
 refine Tr.seq (Tr.reg0 (cm rfl (Ch.nil (Fin.go (Tr.ret (Fin.block_ret (Fin.then_ret (Fin.ret1 rfl (OutW.bse _ _) rfl ?_))))))))
 · refine int_eq ?_; unfold singleI; (repeat (first | rw [if_pos (by omega)] | rw [if_neg (by omega)]))
 refine Tr.seq (Tr.reg0 (co rfl (ki rfl rfl rfl rfl) (cm rfl (Ch.nil (Fin.go (wk2 3 12 rfl ?_))))))
 refine Tr.cn rfl ?_ ?_ <;> intro h6 q6
 refine Tr.seq (Tr.reg0 (cm rfl (Ch.nil (Fin.go (Tr.ret (Fin.block_ret (Fin.then_ret (Fin.ret1 rfl (OutW.bse _ _) rfl ?_))))))))
 · refine int_eq ?_; unfold singleI; (repeat (first | rw [if_pos (by omega)] | rw [if_neg (by omega)]))
 refine Tr.seq (Tr.seq (Tr.reg0 (co rfl (ki rfl rfl rfl rfl) (cm rfl (Ch.nil (Fin.go ?_))))))
 refine Tr.cn rfl ?_ ?_ <;> intro h7 q7
 refine Tr.skip (Fin.go (Tr.cond rfl (fun _ => ?_) (fun h => nomatch h7.symm.trans h)))
 refine Tr.seq (Tr.reg0 (cm rfl (Ch.nil (Fin.go (Tr.ret (Fin.block_ret (Fin.then_ret (Fin.ret1 rfl (OutW.bse _ _) rfl ?_))))))))
 · refine int_eq ?_; unfold singleI; (repeat (first | rw [if_pos (by omega)] | rw [if_neg (by omega)]))
 refine Tr.reg0 (co rfl (ki rfl rfl rfl rfl) (cm rfl (Ch.nil (Fin.go ?_))))
 refine Tr.cn rfl ?_ ?_ <;> intro h8 q8
 refine Tr.seq (Tr.reg0 (cm rfl (Ch.nil (Fin.go (Tr.ret (Fin.block_ret (Fin.then_ret (Fin.ret1 rfl (OutW.bse _ _) rfl ?_))))))))
 · refine int_eq ?_; unfold singleI; (repeat (first | rw [if_pos (by omega)] | rw [if_neg (by omega)]))
 refine Tr.seq (Tr.reg0 (co rfl (ki rfl rfl rfl rfl) (cm rfl (Ch.nil (Fin.go ?_)))))
 refine Tr.cn rfl ?_ ?_ <;> intro h9 q9
 refine Tr.seq (Tr.reg0 (cm rfl (Ch.nil (Fin.go (Tr.ret (Fin.block_ret (Fin.then_ret (Fin.ret1 rfl (OutW.bse _ _) rfl ?_))))))))
 · refine int_eq ?_; unfold singleI; (repeat (first | rw [if_pos (by omega)] | rw [if_neg (by omega)]))
 refine Tr.seq (Tr.reg0 (co rfl (ki rfl rfl rfl rfl) (cm rfl (Ch.nil (Fin.go ?_)))))
 refine Tr.cn rfl ?_ ?_ <;> intro h10 q10
 refine Tr.seq (Tr.reg0 (cm rfl (Ch.nil (Fin.go (Tr.ret (Fin.block_ret (Fin.then_ret (Fin.ret1 rfl (OutW.bse _ _) rfl ?_))))))))
 · refine int_eq ?_; unfold singleI; (repeat (first | rw [if_pos (by omega)] | rw [if_neg (by omega)]))
 refine Tr.skip (Fin.block (Fin.go (Tr.seq (Tr.reg0 (cm rfl (Ch.nil (Fin.go (Tr.ret (Fin.ret1 rfl (OutW.bse _ _) rfl ?_)))))))))
 · refine int_eq ?_; unfold singleI; (repeat (rw [if_neg (by omega)]))
set_option maxRecDepth 20000 in
theorem w_Rmodulus {b : Int}  : Fun Tryz.prog 230 [int b] (int (rmodI b)) := by
 refine Fun.of Tryz.func230 rfl rfl (by exact Nat.le_of_ble_eq_true rfl) fun M0 w0 => ?_
 refine Tr.seq (Tr.reg0 (cm rfl (Ch.nil (Fin.go (Tr.seq (Tr.block (Tr.seq (Tr.reg0 (cm rfl (co rfl (ki rfl rfl rfl rfl) (cm rfl ?_)))))))))))
 refine Ch.cs 6 rfl ?_ ?_ <;> intro h1 q1
 refine cnf h1 rfl (cnf h1 rfl (co rfl (kpt rfl rfl h1 rfl) (cm rfl (Ch.nil (Fin.go (Tr.cond rfl (fun _ => ?_) (fun h => nomatch h)))))))
 refine Tr.seq (Tr.reg0 (cm rfl (Ch.nil (Fin.go (Tr.ret (Fin.block_ret (Fin.then_ret (Fin.ret1 rfl (OutW.bse _ _) rfl ?_))))))))
 · refine int_eq ?_; unfold rmodI; (repeat (rw [if_pos (by omega)]))
 refine cym h1 rfl (cy h1 rfl (ki rfl rfl rfl rfl) (co rfl (kpf rfl rfl h1 rfl) (cm rfl (Ch.nil (Fin.go ?_)))))
 refine Tr.cn rfl ?_ ?_ <;> intro h2 q2
 refine Tr.seq (Tr.reg0 (cm rfl (Ch.nil (Fin.go (Tr.ret (Fin.block_ret (Fin.then_ret (Fin.ret1 rfl (OutW.bse _ _) rfl ?_))))))))
 · refine int_eq ?_; unfold rmodI; (repeat (rw [if_pos (by omega)]))
 refine Tr.seq (Tr.reg0 (cm rfl (co rfl (ki rfl rfl rfl rfl) (cm rfl (Ch.nil (Fin.go ?_))))))
 refine Tr.cn rfl ?_ ?_ <;> intro h3 q3
 refine Tr.seq (Tr.reg0 (cm rfl (Ch.nil (Fin.go (Tr.ret (Fin.block_ret (Fin.then_ret (Fin.ret1 rfl (OutW.bse _ _) rfl ?_))))))))
 · refine int_eq ?_; unfold rmodI; (repeat (first | rw [if_pos (by omega)] | rw [if_neg (by omega)]))
 refine Tr.seq (Tr.reg0 (cm rfl (co rfl (ki rfl rfl rfl rfl) (cm rfl (Ch.nil (Fin.go (wk2 0 13 rfl ?_)))))))
 refine Tr.cn rfl ?_ ?_ <;> intro h4 q4
 refine Tr.seq (Tr.reg0 (cm rfl (Ch.nil (Fin.go (Tr.ret (Fin.block_ret (Fin.then_ret (Fin.ret1 rfl (OutW.bse _ _) rfl ?_))))))))
 · refine int_eq ?_; unfold rmodI; (repeat (first | rw [if_pos (by omega)] | rw [if_neg (by omega)]))
 refine Tr.seq (Tr.reg0 (cm rfl (co rfl (ki rfl rfl rfl rfl) (cm rfl (Ch.nil (Fin.go ?_))))))
 refine Tr.cn rfl ?_ ?_ <;> intro h5 q5
 refine Tr.seq (Tr.reg0 (cm rfl (Ch.nil (Fin.go (Tr.ret (Fin.block_ret (Fin.then_ret (Fin.ret1 rfl (OutW.bse _ _) rfl ?_))))))))
 · refine int_eq ?_; unfold rmodI; (repeat (first | rw [if_pos (by omega)] | rw [if_neg (by omega)]))
 refine Tr.seq (Tr.reg0 (cm rfl (co rfl (ki rfl rfl rfl rfl) (cm rfl (Ch.nil (Fin.go ?_))))))
 refine Tr.cn rfl ?_ ?_ <;> intro h6 q6
 refine Tr.seq (Tr.reg0 (cm rfl (Ch.nil (Fin.go (Tr.ret (Fin.block_ret (Fin.then_ret (Fin.ret1 rfl (OutW.bse _ _) rfl ?_))))))))
 · refine int_eq ?_; unfold rmodI; (repeat (first | rw [if_pos (by omega)] | rw [if_neg (by omega)]))
 refine Tr.seq (Tr.reg0 (cm rfl (co rfl (ki rfl rfl rfl rfl) (cm rfl (Ch.nil (Fin.go ?_))))))
 refine Tr.cn rfl ?_ ?_ <;> intro h7 q7
 refine Tr.seq (Tr.reg0 (cm rfl (Ch.nil (Fin.go (Tr.ret (Fin.block_ret (Fin.then_ret (Fin.ret1 rfl (OutW.bse _ _) rfl ?_))))))))
 · refine int_eq ?_; unfold rmodI; (repeat (first | rw [if_pos (by omega)] | rw [if_neg (by omega)]))
 refine Tr.skip (Fin.block (Fin.go (Tr.seq (Tr.reg0 (cm rfl (Ch.nil (Fin.go (Tr.ret (Fin.ret1 rfl (OutW.bse _ _) rfl ?_)))))))))
 · refine int_eq ?_; unfold rmodI; (repeat (rw [if_neg (by omega)]))
end Go.Proofs.YtflodcidhlmaaaaGreat
namespace Go.Proofs.YtflodcidhlmaaaaGreat
open Go Go.RowKit Cp

theorem among_0 (b c : Int) : amongI b [0] [c] = if b = 0 then c else 0 := by
  unfold amongI idx
  by_cases h : b = 0
  · subst h; rfl
  · have : List.findIdx? (fun x => b == x) [0] = none := by simp [h]
    rw [this, if_neg h]; rfl
theorem strength_mod {alg b : Int} (h : alg = 5 ∨ alg = 6 ∨ alg = 10 ∨ alg = 11) : rmodI b = strength alg b := by
  rw [rmodI_eq]
  rcases h with rfl | rfl | rfl | rfl <;> rfl
theorem strength_rest {alg b : Int} (h : ¬ (alg = 5 ∨ alg = 6 ∨ alg = 7 ∨ alg = 9 ∨ alg = 10 ∨ alg = 11 ∨ alg = 12 ∨ alg = 13 ∨ alg = 14 ∨ alg = 15 ∨ alg = 16 ∨ alg = 17)) : amongI b [0] [singleI alg] = strength alg b := by
  rw [among_0]
  by_cases hin : 1 ≤ alg ∧ alg ≤ 22
  · have ha : alg = 1 ∨ alg = 2 ∨ alg = 3 ∨ alg = 4 ∨ alg = 8 ∨ alg = 18 ∨ alg = 19 ∨ alg = 20 ∨ alg = 21 ∨ alg = 22 := by omega
    rcases ha with rfl | rfl | rfl | rfl | rfl | rfl | rfl | rfl | rfl | rfl <;> rfl
  · have h1 : singleI alg = 0 := by unfold singleI; (repeat (first | rw [if_pos (by omega)] | rw [if_neg (by omega)]))
    unfold strength
    rw [h1, if_neg hin]; split <;> rfl
theorem strength_cur {alg b : Int} (h : alg = 7 ∨ alg = 12) : strength alg b = if (curvs.any fun x => b == x) = true then b.tdiv 2 else 0 := by
  rcases h with rfl | rfl <;> rfl

set_option maxRecDepth 20000 in
theorem w_RStrength {alg bits : Int}  : Fun Tryz.prog 187 [agg [int alg, int bits]] (int (strength alg bits)) := by
 refine Fun.of Tryz.func187 rfl rfl (by exact Nat.le_of_ble_eq_true rfl) fun M0 w0 => ?_
 refine Tr.seq (Tr.reg0 (co rfl (ok_box rfl (VL.le (vl rfl) (agg_cellsP _))) (cm rfl (Ch.nil (Fin.go (Tr.seq (Tr.reg0 (co rfl (kfa rfl fo44_1 rfl rfl) (co rfl (kl1 rfl one3 rfl) (cm rfl (Ch.nil (Fin.go (Tr.seq (Tr.seq ?_))))))))))))))
 refine Tr.reg0 (co rfl (kfa rfl fo44_0 rfl rfl) (co rfl (kl1 rfl one3 rfl) (Ch.nil (Fin.go (Tr.block (Tr.seq (Tr.seq (Tr.reg0 (co rfl (ki rfl rfl rfl rfl) (cm rfl (Ch.nil (Fin.go ?_))))))))))))
 refine Tr.cn rfl ?_ ?_ <;> intro h1 q1
 refine Tr.skip (Fin.go (Tr.cond rfl (fun _ => ?_) (fun h => nomatch h1.symm.trans h)))
 refine Tr.seq (Tr.reg0 (cm rfl (co rfl (ok_call rfl (w_Rmodulus) ⟨ke rfl, trivial⟩) (cm rfl (Ch.nil (Fin.go (Tr.ret (Fin.block_ret (Fin.then_ret (Fin.ret1 rfl (OutW.bse _ _) rfl ?_))))))))))
 · refine int_eq ?_; exact strength_mod (by omega)
 refine Tr.seq (Tr.reg0 (co rfl (ki rfl rfl rfl rfl) (cm rfl (Ch.nil (Fin.go ?_)))))
 refine Tr.cn rfl ?_ ?_ <;> intro h2 q2
 refine Tr.skip (Fin.go (Tr.cond rfl (fun _ => ?_) (fun h => nomatch h2.symm.trans h)))
 refine Tr.seq (Tr.reg0 (cm rfl (co rfl (ok_call rfl (w_Rmodulus) ⟨ke rfl, trivial⟩) (cm rfl (Ch.nil (Fin.go (wk1 2 rfl (Tr.ret (Fin.block_ret (Fin.then_ret (Fin.ret1 rfl (OutW.bse _ _) rfl ?_)))))))))))
 · refine int_eq ?_; exact strength_mod (by omega)
 refine Tr.seq (Tr.reg0 (co rfl (ki rfl rfl rfl rfl) (cm rfl (Ch.nil (Fin.go ?_)))))
 refine Tr.cn rfl ?_ ?_ <;> intro h3 q3
 refine Tr.skip (Fin.go (Tr.cond rfl (fun _ => ?_) (fun h => nomatch h3.symm.trans h)))
 refine Tr.seq (Tr.reg0 (cm rfl (co rfl (ok_call rfl (w_Rmodulus) ⟨ke rfl, trivial⟩) (cm rfl (Ch.nil (Fin.go (wk1 2 rfl (Tr.ret (Fin.block_ret (Fin.then_ret (Fin.ret1 rfl (OutW.bse _ _) rfl ?_)))))))))))
 · refine int_eq ?_; exact strength_mod (by omega)
 refine Tr.reg0 (co rfl (ki rfl rfl rfl rfl) (cm rfl (Ch.nil (Fin.go (wk4 1 3 7 8 rfl ?_)))))
 refine Tr.cn rfl ?_ ?_ <;> intro h4 q4
 refine Tr.seq (Tr.reg0 (cm rfl (co rfl (ok_call rfl (w_Rmodulus) ⟨ke rfl, trivial⟩) (cm rfl (Ch.nil (Fin.go (Tr.ret (Fin.block_ret (Fin.then_ret (Fin.ret1 rfl (OutW.bse _ _) rfl ?_))))))))))
 · refine int_eq ?_; exact strength_mod (by omega)
 refine Tr.seq (Tr.seq (Tr.reg0 (co rfl (ki rfl rfl rfl rfl) (cm rfl (Ch.nil (Fin.go ?_))))))
 refine Tr.cn rfl ?_ ?_ <;> intro h5 q5
 refine Tr.skip (Fin.go (Tr.cond rfl (fun _ => ?_) (fun h => nomatch h5.symm.trans h)))
 refine Tr.seq (Tr.seq (Tr.reg0 (cm rfl (co rfl (ki rfl rfl rfl rfl) (cm rfl ?_)))))
 refine Ch.cs 20 rfl ?_ ?_ <;> intro h6 q6
 refine cnf h6 rfl (cnf h6 rfl (co rfl (kpt rfl rfl h6 rfl) (cm rfl (cnd rfl rfl (cnd rfl rfl (co rfl (kpt rfl rfl rfl rfl) (cm rfl (cnd rfl rfl (cnd rfl rfl (co rfl (kpt rfl rfl rfl rfl) (cm rfl (cnd rfl rfl (cnd rfl rfl ?_)))))))))))))
 refine co rfl (kpt rfl rfl rfl rfl) (Ch.nil (Fin.go (wk2 3 35 rfl (Tr.cond rfl (fun _ => ?_) (fun h => nomatch h)))))
 refine Tr.seq (Tr.reg0 (cm rfl (co rfl (ok_quo rfl (vl rfl) (vl rfl) (by omega)) (cm rfl (Ch.nil (Fin.go (Tr.ret (Fin.then_ret (Fin.block_ret (Fin.then_ret (Fin.ret1 rfl (OutW.bse _ _) rfl ?_)))))))))))
 · refine int_eq ?_; rw [strength_cur (by omega)]; have hb : bits = 160 ∨ bits = 224 ∨ bits = 256 ∨ bits = 384 ∨ bits = 521 := (by omega); rcases hb with rfl | rfl | rfl | rfl | rfl <;> rfl
 refine cym h6 rfl (cy h6 rfl (ki rfl rfl rfl rfl) (co rfl (kpf rfl rfl h6 rfl) (cm rfl ?_)))
 refine Ch.cs 24 rfl ?_ ?_ <;> intro h7 q7
 refine cnf h7 rfl (cnf h7 rfl (co rfl (kpt rfl rfl h7 rfl) (cm rfl (cnd rfl rfl (cnd rfl rfl (co rfl (kpt rfl rfl rfl rfl) (cm rfl (cnd rfl rfl (cnd rfl rfl (co rfl (kpt rfl rfl rfl rfl) (Ch.nil (Fin.go (wk2 3 35 rfl (Tr.cond rfl (fun _ => ?_) (fun h => nomatch h)))))))))))))))
 refine Tr.seq (Tr.reg0 (cm rfl (co rfl (ok_quo rfl (vl rfl) (vl rfl) (by omega)) (cm rfl (Ch.nil (Fin.go (Tr.ret (Fin.then_ret (Fin.block_ret (Fin.then_ret (Fin.ret1 rfl (OutW.bse _ _) rfl ?_)))))))))))
 · refine int_eq ?_; rw [strength_cur (by omega)]; have hb : bits = 160 ∨ bits = 224 ∨ bits = 256 ∨ bits = 384 ∨ bits = 521 := (by omega); rcases hb with rfl | rfl | rfl | rfl | rfl <;> rfl
 refine cym h7 rfl (cy h7 rfl (ki rfl rfl rfl rfl) (co rfl (kpf rfl rfl h7 rfl) (cm rfl ?_)))
 refine Ch.cs 28 rfl ?_ ?_ <;> intro h8 q8
 refine cnf h8 rfl (cnf h8 rfl (co rfl (kpt rfl rfl h8 rfl) (cm rfl (cnd rfl rfl (cnd rfl rfl (co rfl (kpt rfl rfl rfl rfl) (Ch.nil (Fin.go (wk2 3 35 rfl (Tr.cond rfl (fun _ => ?_) (fun h => nomatch h)))))))))))
 refine Tr.seq (Tr.reg0 (cm rfl (co rfl (ok_quo rfl (vl rfl) (vl rfl) (by omega)) (cm rfl (Ch.nil (Fin.go (Tr.ret (Fin.then_ret (Fin.block_ret (Fin.then_ret (Fin.ret1 rfl (OutW.bse _ _) rfl ?_)))))))))))
 · refine int_eq ?_; rw [strength_cur (by omega)]; have hb : bits = 160 ∨ bits = 224 ∨ bits = 256 ∨ bits = 384 ∨ bits = 521 := (by omega); rcases hb with rfl | rfl | rfl | rfl | rfl <;> rfl
 refine cym h8 rfl (cy h8 rfl (ki rfl rfl rfl rfl) (co rfl (kpf rfl rfl h8 rfl) (cm rfl ?_)))
 refine Ch.cs 32 rfl ?_ ?_ <;> intro h9 q9
 refine cnf h9 rfl (cnf h9 rfl (co rfl (kpt rfl rfl h9 rfl) (Ch.nil (Fin.go (wk2 3 35 rfl (Tr.cond rfl (fun _ => ?_) (fun h => nomatch h)))))))
 refine Tr.seq (Tr.reg0 (cm rfl (co rfl (ok_quo rfl (vl rfl) (vl rfl) (by omega)) (cm rfl (Ch.nil (Fin.go (Tr.ret (Fin.then_ret (Fin.block_ret (Fin.then_ret (Fin.ret1 rfl (OutW.bse _ _) rfl ?_)))))))))))
 · refine int_eq ?_; rw [strength_cur (by omega)]; have hb : bits = 160 ∨ bits = 224 ∨ bits = 256 ∨ bits = 384 ∨ bits = 521 := (by omega); rcases hb with rfl | rfl | rfl | rfl | rfl <;> rfl
 refine cym h9 rfl (cy h9 rfl (ki rfl rfl rfl rfl) (co rfl (kpf rfl rfl h9 rfl) (Ch.nil (Fin.go (wk2 3 35 rfl ?_)))))
 refine Tr.cn rfl ?_ ?_ <;> intro h10 q10
 refine Tr.seq (Tr.reg0 (cm rfl (co rfl (ok_quo rfl (vl rfl) (vl rfl) (by omega)) (cm rfl (Ch.nil (Fin.go (Tr.ret (Fin.then_ret (Fin.block_ret (Fin.then_ret (Fin.ret1 rfl (OutW.bse _ _) rfl ?_)))))))))))
 · refine int_eq ?_; rw [strength_cur (by omega)]; have hb : bits = 160 ∨ bits = 224 ∨ bits = 256 ∨ bits = 384 ∨ bits = 521 := (by omega); rcases hb with rfl | rfl | rfl | rfl | rfl <;> rfl
 refine Tr.skip (Fin.go (Tr.seq (Tr.reg0 (cm rfl (Ch.nil (Fin.go (Tr.ret (Fin.block_ret (Fin.then_ret (Fin.ret1 rfl (OutW.bse _ _) rfl ?_))))))))))
 · refine int_eq ?_; rw [strength_cur (by omega), if_neg (by simp [curvs]; omega)]
 refine Tr.reg0 (co rfl (ki rfl rfl rfl rfl) (cm rfl (Ch.nil (Fin.go ?_))))
 refine Tr.cn rfl ?_ ?_ <;> intro h11 q11
 refine Tr.seq (Tr.seq (Tr.reg0 (cm rfl (co rfl (ki rfl rfl rfl rfl) (cm rfl ?_)))))
 refine Ch.cs 20 rfl ?_ ?_ <;> intro h12 q12
 refine cnf h12 rfl (cnf h12 rfl (co rfl (kpt rfl rfl h12 rfl) (cm rfl (cnd rfl rfl (cnd rfl rfl (co rfl (kpt rfl rfl rfl rfl) (cm rfl (cnd rfl rfl (cnd rfl rfl (co rfl (kpt rfl rfl rfl rfl) (cm rfl (cnd rfl rfl (cnd rfl rfl ?_)))))))))))))
 refine co rfl (kpt rfl rfl rfl rfl) (Ch.nil (Fin.go (wk2 3 35 rfl (Tr.cond rfl (fun _ => ?_) (fun h => nomatch h)))))
 refine Tr.seq (Tr.reg0 (cm rfl (co rfl (ok_quo rfl (vl rfl) (vl rfl) (by omega)) (cm rfl (Ch.nil (Fin.go (Tr.ret (Fin.then_ret (Fin.block_ret (Fin.then_ret (Fin.ret1 rfl (OutW.bse _ _) rfl ?_)))))))))))
 · refine int_eq ?_; rw [strength_cur (by omega)]; have hb : bits = 160 ∨ bits = 224 ∨ bits = 256 ∨ bits = 384 ∨ bits = 521 := (by omega); rcases hb with rfl | rfl | rfl | rfl | rfl <;> rfl
 refine cym h12 rfl (cy h12 rfl (ki rfl rfl rfl rfl) (co rfl (kpf rfl rfl h12 rfl) (cm rfl ?_)))
 refine Ch.cs 24 rfl ?_ ?_ <;> intro h13 q13
 refine cnf h13 rfl (cnf h13 rfl (co rfl (kpt rfl rfl h13 rfl) (cm rfl (cnd rfl rfl (cnd rfl rfl (co rfl (kpt rfl rfl rfl rfl) (cm rfl (cnd rfl rfl (cnd rfl rfl (co rfl (kpt rfl rfl rfl rfl) (Ch.nil (Fin.go (wk2 3 35 rfl (Tr.cond rfl (fun _ => ?_) (fun h => nomatch h)))))))))))))))
 refine Tr.seq (Tr.reg0 (cm rfl (co rfl (ok_quo rfl (vl rfl) (vl rfl) (by omega)) (cm rfl (Ch.nil (Fin.go (Tr.ret (Fin.then_ret (Fin.block_ret (Fin.then_ret (Fin.ret1 rfl (OutW.bse _ _) rfl ?_)))))))))))
 · refine int_eq ?_; rw [strength_cur (by omega)]; have hb : bits = 160 ∨ bits = 224 ∨ bits = 256 ∨ bits = 384 ∨ bits = 521 := (by omega); rcases hb with rfl | rfl | rfl | rfl | rfl <;> rfl
 refine cym h13 rfl (cy h13 rfl (ki rfl rfl rfl rfl) (co rfl (kpf rfl rfl h13 rfl) (cm rfl ?_)))
 refine Ch.cs 28 rfl ?_ ?_ <;> intro h14 q14
 refine cnf h14 rfl (cnf h14 rfl (co rfl (kpt rfl rfl h14 rfl) (cm rfl (cnd rfl rfl (cnd rfl rfl (co rfl (kpt rfl rfl rfl rfl) (Ch.nil (Fin.go (wk2 3 35 rfl (Tr.cond rfl (fun _ => ?_) (fun h => nomatch h)))))))))))
 refine Tr.seq (Tr.reg0 (cm rfl (co rfl (ok_quo rfl (vl rfl) (vl rfl) (by omega)) (cm rfl (Ch.nil (Fin.go (Tr.ret (Fin.then_ret (Fin.block_ret (Fin.then_ret (Fin.ret1 rfl (OutW.bse _ _) rfl ?_)))))))))))
 · refine int_eq ?_; rw [strength_cur (by omega)]; have hb : bits = 160 ∨ bits = 224 ∨ bits = 256 ∨ bits = 384 ∨ bits = 521 := (by omega); rcases hb with rfl | rfl | rfl | rfl | rfl <;> rfl
 refine cym h14 rfl (cy h14 rfl (ki rfl rfl rfl rfl) (co rfl (kpf rfl rfl h14 rfl) (cm rfl ?_)))
 refine Ch.cs 32 rfl ?_ ?_ <;> intro h15 q15
 refine cnf h15 rfl (cnf h15 rfl (co rfl (kpt rfl rfl h15 rfl) (Ch.nil (Fin.go (wk2 3 35 rfl (Tr.cond rfl (fun _ => ?_) (fun h => nomatch h)))))))
 refine Tr.seq (Tr.reg0 (cm rfl (co rfl (ok_quo rfl (vl rfl) (vl rfl) (by omega)) (cm rfl (Ch.nil (Fin.go (Tr.ret (Fin.then_ret (Fin.block_ret (Fin.then_ret (Fin.ret1 rfl (OutW.bse _ _) rfl ?_)))))))))))
 · refine int_eq ?_; rw [strength_cur (by omega)]; have hb : bits = 160 ∨ bits = 224 ∨ bits = 256 ∨ bits = 384 ∨ bits = 521 := (by omega); rcases hb with rfl | rfl | rfl | rfl | rfl <;> rfl
 refine cym h15 rfl (cy h15 rfl (ki rfl rfl rfl rfl) (co rfl (kpf rfl rfl h15 rfl) (Ch.nil (Fin.go (wk2 3 35 rfl ?_)))))
 refine Tr.cn rfl ?_ ?_ <;> intro h16 q16
 refine Tr.seq (Tr.reg0 (cm rfl (co rfl (ok_quo rfl (vl rfl) (vl rfl) (by omega)) (cm rfl (Ch.nil (Fin.go (Tr.ret (Fin.then_ret (Fin.block_ret (Fin.then_ret (Fin.ret1 rfl (OutW.bse _ _) rfl ?_)))))))))))
 · refine int_eq ?_; rw [strength_cur (by omega)]; have hb : bits = 160 ∨ bits = 224 ∨ bits = 256 ∨ bits = 384 ∨ bits = 521 := (by omega); rcases hb with rfl | rfl | rfl | rfl | rfl <;> rfl
 refine Tr.skip (Fin.go (Tr.seq (Tr.reg0 (cm rfl (Ch.nil (Fin.go (Tr.ret (Fin.block_ret (Fin.then_ret (Fin.ret1 rfl (OutW.bse _ _) rfl ?_))))))))))
 · refine int_eq ?_; rw [strength_cur (by omega), if_neg (by simp [curvs]; omega)]
 refine Tr.seq (Tr.reg0 (co rfl (ki rfl rfl rfl rfl) (cm rfl (Ch.nil (Fin.go ?_)))))
 refine Tr.cn rfl ?_ ?_ <;> intro h17 q17
 refine Tr.seq (Tr.reg0 (cm rfl (co rfl (ok_buildSlice (xs := [.const (.int .i64 (44)), .const (.int .i64 (65)), .const (.int .i64 (87))]) (rows := [[_], [_], [_]]) rfl rfl Tryz.underlying22 sz3 z3 rfl (by decide) ⟨⟨(by exact rfl), (VL.le (vl rfl) (one_cellsP _))⟩, ⟨⟨(by exact rfl), (VL.le (vl rfl) (one_cellsP _))⟩, ⟨⟨(by exact rfl), (VL.le (vl rfl) (one_cellsP _))⟩, trivial⟩⟩⟩ (by decide)) ?_)))
 refine co rfl (ok_buildSlice (xs := [.const (.int .i64 (128)), .const (.int .i64 (192)), .const (.int .i64 (256))]) (rows := [[_], [_], [_]]) rfl rfl Tryz.underlying22 sz3 z3 rfl (by decide) ⟨⟨(by exact rfl), (VL.le (vl rfl) (one_cellsP _))⟩, ⟨⟨(by exact rfl), (VL.le (vl rfl) (one_cellsP _))⟩, ⟨⟨(by exact rfl), (VL.le (vl rfl) (one_cellsP _))⟩, trivial⟩⟩⟩ (by decide)) ?_
 refine co rfl (ok_call rfl (w_among (l := [44, 65, 87]) (m := [128, 192, 256]) (by simp)) ⟨ke rfl, ⟨_, rfl, full_le _ _⟩, ⟨_, rfl, full_le _ _⟩, trivial⟩) ?_
 refine cm rfl (Ch.nil (Fin.go (wk1 2 rfl (Tr.ret (Fin.block_ret (Fin.then_ret (Fin.ret1 rfl (OutW.bse _ _) rfl ?_)))))))
 · refine int_eq ?_; have ha : alg = 9 := (by omega); rcases ha with rfl <;> rfl
 refine Tr.seq (Tr.reg0 (co rfl (ki rfl rfl rfl rfl) (cm rfl (Ch.nil (Fin.go ?_)))))
 refine Tr.cn rfl ?_ ?_ <;> intro h18 q18
 refine Tr.seq (Tr.reg0 (cm rfl (co rfl (ok_buildSlice (xs := [.const (.int .i64 (512)), .const (.int .i64 (768)), .const (.int .i64 (1024))]) (rows := [[_], [_], [_]]) rfl rfl Tryz.underlying22 sz3 z3 rfl (by decide) ⟨⟨(by exact rfl), (VL.le (vl rfl) (one_cellsP _))⟩, ⟨⟨(by exact rfl), (VL.le (vl rfl) (one_cellsP _))⟩, ⟨⟨(by exact rfl), (VL.le (vl rfl) (one_cellsP _))⟩, trivial⟩⟩⟩ (by decide)) ?_)))
 refine co rfl (ok_buildSlice (xs := [.const (.int .i64 (128)), .const (.int .i64 (192)), .const (.int .i64 (256))]) (rows := [[_], [_], [_]]) rfl rfl Tryz.underlying22 sz3 z3 rfl (by decide) ⟨⟨(by exact rfl), (VL.le (vl rfl) (one_cellsP _))⟩, ⟨⟨(by exact rfl), (VL.le (vl rfl) (one_cellsP _))⟩, ⟨⟨(by exact rfl), (VL.le (vl rfl) (one_cellsP _))⟩, trivial⟩⟩⟩ (by decide)) ?_
 refine co rfl (ok_call rfl (w_among (l := [512, 768, 1024]) (m := [128, 192, 256]) (by simp)) ⟨ke rfl, ⟨_, rfl, full_le _ _⟩, ⟨_, rfl, full_le _ _⟩, trivial⟩) ?_
 refine cm rfl (Ch.nil (Fin.go (wk1 2 rfl (Tr.ret (Fin.block_ret (Fin.then_ret (Fin.ret1 rfl (OutW.bse _ _) rfl ?_)))))))
 · refine int_eq ?_; have ha : alg = 13 := (by omega); rcases ha with rfl <;> rfl
 refine Tr.seq (Tr.reg0 (co rfl (ki rfl rfl rfl rfl) (cm rfl (Ch.nil (Fin.go (wk4 1 3 7 50 rfl ?_))))))
 refine Tr.cn rfl ?_ ?_ <;> intro h19 q19
 refine Tr.seq (Tr.reg0 (cm rfl (co rfl (ok_buildSlice (xs := [.const (.int .i64 (40)), .const (.int .i64 (128))]) (rows := [[_], [_]]) rfl rfl Tryz.underlying22 sz3 z3 rfl (by decide) ⟨⟨(by exact rfl), (VL.le (vl rfl) (one_cellsP _))⟩, ⟨⟨(by exact rfl), (VL.le (vl rfl) (one_cellsP _))⟩, trivial⟩⟩ (by decide)) ?_)))
 refine co rfl (ok_buildSlice (xs := [.const (.int .i64 (40)), .const (.int .i64 (60))]) (rows := [[_], [_]]) rfl rfl Tryz.underlying22 sz3 z3 rfl (by decide) ⟨⟨(by exact rfl), (VL.le (vl rfl) (one_cellsP _))⟩, ⟨⟨(by exact rfl), (VL.le (vl rfl) (one_cellsP _))⟩, trivial⟩⟩ (by decide)) ?_
 refine co rfl (ok_call rfl (w_among (l := [40, 128]) (m := [40, 60]) (by simp)) ⟨ke rfl, ⟨_, rfl, full_le _ _⟩, ⟨_, rfl, full_le _ _⟩, trivial⟩) ?_
 refine cm rfl (Ch.nil (Fin.go (Tr.ret (Fin.block_ret (Fin.then_ret (Fin.ret1 rfl (OutW.bse _ _) rfl ?_))))))
 · refine int_eq ?_; have ha : alg = 14 := (by omega); rcases ha with rfl <;> rfl
 refine Tr.seq (Tr.reg0 (co rfl (ki rfl rfl rfl rfl) (cm rfl (Ch.nil (Fin.go ?_)))))
 refine Tr.cn rfl ?_ ?_ <;> intro h20 q20
 refine Tr.seq (Tr.reg0 (cm rfl (co rfl (ok_buildSlice (xs := [.const (.int .i64 (112)), .const (.int .i64 (168))]) (rows := [[_], [_]]) rfl rfl Tryz.underlying22 sz3 z3 rfl (by decide) ⟨⟨(by exact rfl), (VL.le (vl rfl) (one_cellsP _))⟩, ⟨⟨(by exact rfl), (VL.le (vl rfl) (one_cellsP _))⟩, trivial⟩⟩ (by decide)) ?_)))
 refine co rfl (ok_buildSlice (xs := [.const (.int .i64 (80)), .const (.int .i64 (112))]) (rows := [[_], [_]]) rfl rfl Tryz.underlying22 sz3 z3 rfl (by decide) ⟨⟨(by exact rfl), (VL.le (vl rfl) (one_cellsP _))⟩, ⟨⟨(by exact rfl), (VL.le (vl rfl) (one_cellsP _))⟩, trivial⟩⟩ (by decide)) ?_
 refine co rfl (ok_call rfl (w_among (l := [112, 168]) (m := [80, 112]) (by simp)) ⟨ke rfl, ⟨_, rfl, full_le _ _⟩, ⟨_, rfl, full_le _ _⟩, trivial⟩) ?_
 refine cm rfl (Ch.nil (Fin.go (Tr.ret (Fin.block_ret (Fin.then_ret (Fin.ret1 rfl (OutW.bse _ _) rfl ?_))))))
 · refine int_eq ?_; have ha : alg = 15 := (by omega); rcases ha with rfl <;> rfl
 refine Tr.seq (Tr.seq (Tr.reg0 (co rfl (ki rfl rfl rfl rfl) (cm rfl (Ch.nil (Fin.go ?_))))))
 refine Tr.cn rfl ?_ ?_ <;> intro h21 q21
 refine Tr.skip (Fin.go (Tr.cond rfl (fun _ => ?_) (fun h => nomatch h21.symm.trans h)))
 refine Tr.seq (Tr.reg0 (cm rfl (co rfl (ok_buildSlice (xs := [.const (.int .i64 (128)), .const (.int .i64 (256))]) (rows := [[_], [_]]) rfl rfl Tryz.underlying22 sz3 z3 rfl (by decide) ⟨⟨(by exact rfl), (VL.le (vl rfl) (one_cellsP _))⟩, ⟨⟨(by exact rfl), (VL.le (vl rfl) (one_cellsP _))⟩, trivial⟩⟩ (by decide)) ?_)))
 refine co rfl (ok_buildSlice (xs := [.const (.int .i64 (128)), .const (.int .i64 (256))]) (rows := [[_], [_]]) rfl rfl Tryz.underlying22 sz3 z3 rfl (by decide) ⟨⟨(by exact rfl), (VL.le (vl rfl) (one_cellsP _))⟩, ⟨⟨(by exact rfl), (VL.le (vl rfl) (one_cellsP _))⟩, trivial⟩⟩ (by decide)) ?_
 refine co rfl (ok_call rfl (w_among (l := [128, 256]) (m := [128, 256]) (by simp)) ⟨ke rfl, ⟨_, rfl, full_le _ _⟩, ⟨_, rfl, full_le _ _⟩, trivial⟩) ?_
 refine cm rfl (Ch.nil (Fin.go (Tr.ret (Fin.block_ret (Fin.then_ret (Fin.ret1 rfl (OutW.bse _ _) rfl ?_))))))
 · refine int_eq ?_; have ha : alg = 16 ∨ alg = 17 := (by omega); rcases ha with rfl | rfl <;> rfl
 refine Tr.reg0 (co rfl (ki rfl rfl rfl rfl) (cm rfl (Ch.nil (Fin.go ?_))))
 refine Tr.cn rfl ?_ ?_ <;> intro h22 q22
 refine Tr.seq (Tr.reg0 (cm rfl (co rfl (ok_buildSlice (xs := [.const (.int .i64 (128)), .const (.int .i64 (256))]) (rows := [[_], [_]]) rfl rfl Tryz.underlying22 sz3 z3 rfl (by decide) ⟨⟨(by exact rfl), (VL.le (vl rfl) (one_cellsP _))⟩, ⟨⟨(by exact rfl), (VL.le (vl rfl) (one_cellsP _))⟩, trivial⟩⟩ (by decide)) ?_)))
 refine co rfl (ok_buildSlice (xs := [.const (.int .i64 (128)), .const (.int .i64 (256))]) (rows := [[_], [_]]) rfl rfl Tryz.underlying22 sz3 z3 rfl (by decide) ⟨⟨(by exact rfl), (VL.le (vl rfl) (one_cellsP _))⟩, ⟨⟨(by exact rfl), (VL.le (vl rfl) (one_cellsP _))⟩, trivial⟩⟩ (by decide)) ?_
 refine co rfl (ok_call rfl (w_among (l := [128, 256]) (m := [128, 256]) (by simp)) ⟨ke rfl, ⟨_, rfl, full_le _ _⟩, ⟨_, rfl, full_le _ _⟩, trivial⟩) ?_
 refine cm rfl (Ch.nil (Fin.go (wk1 2 rfl (Tr.ret (Fin.block_ret (Fin.then_ret (Fin.ret1 rfl (OutW.bse _ _) rfl ?_)))))))
 · refine int_eq ?_; have ha : alg = 16 ∨ alg = 17 := (by omega); rcases ha with rfl | rfl <;> rfl
 refine Tr.skip (Fin.block (Fin.go (Tr.seq (Tr.reg0 (cm rfl (co rfl (ok_buildSlice (xs := [.const (.int .i64 (0))]) (rows := [[_]]) rfl rfl Tryz.underlying22 sz3 z3 rfl (by decide) ⟨⟨(by exact rfl), (VL.le (vl rfl) (one_cellsP _))⟩, trivial⟩ (by decide)) ?_))))))
 refine co rfl (kfa rfl fo44_0 rfl rfl) (co rfl (kl1 rfl one3 rfl) (co rfl (ok_call rfl (w_single) ⟨ke rfl, trivial⟩) (co rfl (ok_buildSlice (xs := [.tmp 73]) (rows := [[_]]) rfl rfl Tryz.underlying22 sz3 z3 rfl (by decide) ⟨⟨(by exact rfl), (VL.le (vl rfl) (one_cellsP _))⟩, trivial⟩ (by decide)) ?_)))
 refine co rfl (ok_call rfl (w_among (l := [0]) (m := [singleI alg]) (by simp)) ⟨ke rfl, ⟨_, rfl, full_le _ _⟩, ⟨_, rfl, full_le _ _⟩, trivial⟩) ?_
 refine cm rfl (Ch.nil (Fin.go (wk1 2 rfl (Tr.ret (Fin.ret1 rfl (OutW.bse _ _) rfl ?_)))))
 · refine int_eq ?_; exact strength_rest (by omega)
set_option maxRecDepth 20000 in
theorem w_RValid {alg bits : Int}  : Fun Tryz.prog 155 [agg [int alg, int bits]] (bool (decide (strength alg bits > 0))) := by
 refine Fun.of Tryz.func155 rfl rfl (by exact Nat.le_of_ble_eq_true rfl) fun M0 w0 => ?_
 refine Tr.seq (Tr.reg0 (co rfl (ok_box rfl (VL.le (vl rfl) (agg_cellsP _))) (cm rfl (Ch.nil (Fin.go (Tr.seq (Tr.reg0 (co rfl (ok_loadA rfl agg44 sz44 (vl rfl) rfl rfl) (co rfl (ok_call rfl (w_RStrength) ⟨ke rfl, trivial⟩) (co rfl (ki rfl rfl rfl rfl) (cm rfl (Ch.nil (Fin.go (Tr.ret ?_))))))))))))))
 refine Fin.ret1 rfl (OutW.bse _ _) rfl ?_
 · exact Pr.le_refl _
def rtab : List (List UInt8 × Int) := catTable.map fun r => (r.name, r.kind)
theorem rtab_at {alg : Int} (h : 1 ≤ alg ∧ alg ≤ 22) : rtab[alg.toNat]? = some ((catOf alg).name, (catOf alg).kind) := by
  unfold rtab; rw [List.getElem?_map, catTable_at h]; rfl

set_option maxRecDepth 20000 in
theorem w_Rrows   : Fun Tryz.prog 113 [] (slice 2 (rtab.map fun r => [str r.1, int r.2])) := by
 refine Fun.of Tryz.func113 rfl rfl (by exact Nat.le_of_ble_eq_true rfl) fun M0 w0 => ?_
 refine Tr.seq (Tr.reg0 (cm rfl (Ch.nil (Fin.go (Tr.seq (Tr.reg0 (co rfl (ok_build (rows := []) rfl bl157 zo157 trivial rfl) ?_)))))))
 iterate 22 refine co rfl (ok_build (rows := [(0, [_]), (1, [_])]) rfl bl157 zo157 ⟨⟨rfl, (VL.le (vl rfl) (one_cellsP _))⟩, ⟨⟨rfl, (VL.le (vl rfl) (one_cellsP _))⟩, trivial⟩⟩ rfl) ?_
 refine co rfl (ok_buildSlice (xs := [.tmp 1, .tmp 2, .tmp 3, .tmp 4, .tmp 5, .tmp 6, .tmp 7, .tmp 8, .tmp 9, .tmp 10, .tmp 11, .tmp 12, .tmp 13, .tmp 14, .tmp 15, .tmp 16, .tmp 17, .tmp 18, .tmp 19, .tmp 20, .tmp 21, .tmp 22, .tmp 23]) (rows := [_, _, _, _, _, _, _, _, _, _, _, _, _, _, _, _, _, _, _, _, _, _, _]) rfl rfl Tryz.underlying158 sz157 z157 rfl (by decide) ⟨⟨(by exact rfl), (VL.le (vl rfl) (agg_cellsP _))⟩, ⟨⟨(by exact rfl), (VL.le (vl rfl) (agg_cellsP _))⟩, ⟨⟨(by exact rfl), (VL.le (vl rfl) (agg_cellsP _))⟩, ⟨⟨(by exact rfl), (VL.le (vl rfl) (agg_cellsP _))⟩, ⟨⟨(by exact rfl), (VL.le (vl rfl) (agg_cellsP _))⟩, ⟨⟨(by exact rfl), (VL.le (vl rfl) (agg_cellsP _))⟩, ⟨⟨(by exact rfl), (VL.le (vl rfl) (agg_cellsP _))⟩, ⟨⟨(by exact rfl), (VL.le (vl rfl) (agg_cellsP _))⟩, ⟨⟨(by exact rfl), (VL.le (vl rfl) (agg_cellsP _))⟩, ⟨⟨(by exact rfl), (VL.le (vl rfl) (agg_cellsP _))⟩, ⟨⟨(by exact rfl), (VL.le (vl rfl) (agg_cellsP _))⟩, ⟨⟨(by exact rfl), (VL.le (vl rfl) (agg_cellsP _))⟩, ⟨⟨(by exact rfl), (VL.le (vl rfl) (agg_cellsP _))⟩, ⟨⟨(by exact rfl), (VL.le (vl rfl) (agg_cellsP _))⟩, ⟨⟨(by exact rfl), (VL.le (vl rfl) (agg_cellsP _))⟩, ⟨⟨(by exact rfl), (VL.le (vl rfl) (agg_cellsP _))⟩, ⟨⟨(by exact rfl), (VL.le (vl rfl) (agg_cellsP _))⟩, ⟨⟨(by exact rfl), (VL.le (vl rfl) (agg_cellsP _))⟩, ⟨⟨(by exact rfl), (VL.le (vl rfl) (agg_cellsP _))⟩, ⟨⟨(by exact rfl), (VL.le (vl rfl) (agg_cellsP _))⟩, ⟨⟨(by exact rfl), (VL.le (vl rfl) (agg_cellsP _))⟩, ⟨⟨(by exact rfl), (VL.le (vl rfl) (agg_cellsP _))⟩, ⟨⟨(by exact rfl), (VL.le (vl rfl) (agg_cellsP _))⟩, trivial⟩⟩⟩⟩⟩⟩⟩⟩⟩⟩⟩⟩⟩⟩⟩⟩⟩⟩⟩⟩⟩⟩⟩ (by decide)) ?_
 refine cm rfl (Ch.nil (Fin.go (wk1 0 rfl (Tr.ret (Fin.ret1 rfl (OutW.bse _ _) rfl ?_)))))
 · exact full_le _ _
set_option maxRecDepth 20000 in
theorem w_RKind {alg : Int}  : Fun Tryz.prog 69 [int alg] (int (catOf alg).kind) := by
 refine Fun.of Tryz.func69 rfl rfl (by exact Nat.le_of_ble_eq_true rfl) fun M0 w0 => ?_
 refine Tr.seq (Tr.reg0 (cm rfl (Ch.nil (Fin.go (Tr.seq (Tr.seq (Tr.reg0 (cm rfl (co rfl (ki rfl rfl rfl rfl) (cm rfl ?_))))))))))
 refine Ch.cs 5 rfl ?_ ?_ <;> intro h1 q1
 refine cnf h1 rfl (cnf h1 rfl (co rfl (kpt rfl rfl h1 rfl) (Ch.nil (Fin.go (Tr.cond rfl (fun _ => ?_) (fun h => nomatch h))))))
 refine Tr.seq (Tr.reg0 (cm rfl (Ch.nil (Fin.go (Tr.ret (Fin.then_ret (Fin.ret1 rfl (OutW.bse _ _) rfl ?_)))))))
 · refine int_eq ?_; unfold catOf; rw [if_neg (by omega)]; rfl
 refine cym h1 rfl (cy h1 rfl (ki rfl rfl rfl rfl) (co rfl (kpf rfl rfl h1 rfl) (Ch.nil (Fin.go ?_))))
 refine Tr.cn rfl ?_ ?_ <;> intro h2 q2
 refine Tr.seq (Tr.reg0 (cm rfl (Ch.nil (Fin.go (Tr.ret (Fin.then_ret (Fin.ret1 rfl (OutW.bse _ _) rfl ?_)))))))
 · refine int_eq ?_; unfold catOf; rw [if_neg (by omega)]; rfl
 have hin : 1 ≤ alg ∧ alg ≤ 22 := by omega
 refine Tr.skip (Fin.go (Tr.seq (Tr.reg0 (co rfl (ok_call rfl (w_Rrows) trivial) (cm rfl (co rfl (ok_indexAddr rfl Tryz.underlying158 sz157 (vl rfl) (vl rfl) (by omega) (row_atI (f := fun r : List UInt8 × Int => [str r.1, int r.2]) (rtab_at hin))) (co rfl (kfa rfl fo157_1 rfl rfl) (co rfl (kl1 rfl one3 rfl) (cm rfl (Ch.nil (Fin.go (Tr.ret (Fin.ret1 rfl (OutW.bse _ _) rfl ?_)))))))))))))
 · exact Pr.le_refl _
set_option maxRecDepth 20000 in
theorem w_Signature {alg bits : Int}  : Fun Tryz.prog 111 [agg [int alg, int bits]] (bool (decide (strength alg bits > 0) && (catOf alg).kind == 2)) := by
 refine Fun.of Tryz.func111 rfl rfl (by exact Nat.le_of_ble_eq_true rfl) fun M0 w0 => ?_
 refine Tr.seq (Tr.reg0 (co rfl (ok_box rfl (VL.le (vl rfl) (agg_cellsP _))) (cm rfl (Ch.nil (Fin.go (Tr.seq (Tr.reg0 (co rfl (ok_loadA rfl agg44 sz44 (vl rfl) rfl rfl) (co rfl (ok_call rfl (w_RValid) ⟨ke rfl, trivial⟩) (cm rfl ?_))))))))))
 refine Ch.cs 5 rfl ?_ ?_ <;> intro h1 q1
 refine cy h1 rfl (kfa rfl fo44_0 rfl rfl) (cy h1 rfl (kl1 rfl one3 rfl) (cy h1 rfl (ok_call rfl (w_RKind) ⟨ke rfl, trivial⟩) (cy h1 rfl (ki rfl rfl rfl rfl) (co rfl (kpt rfl rfl h1 rfl) (cm rfl (Ch.nil (Fin.go (Tr.ret (Fin.ret1 rfl (OutW.bse _ _) rfl ?_)))))))))
 · refine bool_eq ?_; simp_all
 iterate 4 refine cnt h1 rfl ?_
 refine co rfl (kpf rfl rfl h1 rfl) (cm rfl (Ch.nil (Fin.go (Tr.ret (Fin.ret1 rfl (OutW.bse _ _) rfl ?_)))))
 · refine bool_eq ?_; simp_all; omega
end Go.Proofs.YtflodcidhlmaaaaGreat
namespace Cp
open Go Go.RowKit Go.Great

section
variable {P : Program} {E : Env} {I : Asn} {o : Oper}
theorem slice_part {M : Av} {w : World} {sz : Nat} {rows : List (List Pr)} {A : Option Addr} {cap lo hi : Nat} (h : (slice sz rows).h M w (.slice A rows.length cap)) (h1 : lo ≤ hi) (h2 : hi ≤ rows.length) :
    (slice sz ((rows.take hi).drop lo)).h M w (.slice (if cap = lo then A else A.map (·.add (lo * sz))) (hi - lo) (cap - lo)) := by
  obtain ⟨A', cap', hv, hc, hm, hA, hr⟩ := h
  injection hv with e1 _ e3
  subst e1; subst e3
  have hlen : ((rows.take hi).drop lo).length = hi - lo := by rw [List.length_drop, List.length_take]; omega
  refine ⟨_, cap - lo, by rw [hlen], by rw [hlen]; omega, by omega, fun h => ?_, fun i row hi' => ?_⟩
  · split at h
    · have := hA h; omega
    · cases hA2 : A with
      | none => have := hA hA2; omega
      | some a => rw [hA2] at h; cases h
  · rw [List.getElem?_drop, List.getElem?_take] at hi'
    split at hi'
    · rename_i hlt
      obtain ⟨h3, ad, h4, h5⟩ := hr _ row hi'
      subst h4
      rw [if_neg (by omega)]
      refine ⟨h3, _, rfl, fun j p hp => ?_⟩
      obtain ⟨u, h6, h7, h8, h9⟩ := h5 j p hp
      refine ⟨u, ?_, ?_, h8, h9⟩
      · rw [add_add, show lo * sz + (i * sz + j) = (lo + i) * sz + j by rw [Nat.add_mul]; omega]; exact h6
      · rw [add_block, add_off, show ad.off + lo * sz + (i * sz + j) = ad.off + ((lo + i) * sz + j) by rw [Nat.add_mul]; omega]; exact h7
    · cases hi'
theorem ok_sliceTo {t e : TypeId} {x y : Operand} {k : IntKind} {h : Int} {sz : Nat} {rows : List (List Pr)} (ho : o.op = .slice t x none (some y) none) (ht : P.underlying t = some (.slice e)) (hz : sizeB P e = some sz) (hx : VL E x (slice sz rows)) (hy : VL E y (is (.int k h))) (h0 : 0 ≤ h) (hl : h ≤ rows.length) :
    OpOK P I o E (slice sz (rows.take h.toNat)) :=
  OpOK.same fun M w a he _ => by
    have h1 := hx.ev he (by simp [ho, Op.operands])
    have h3 : a.eval y = _ := hy.ev he (by simp [ho, Op.operands])
    obtain ⟨A, cap, hv, hc, hm, hA, hr⟩ := h1
    have h2 := slice_part (lo := 0) (hi := h.toNat) (show (slice sz rows).h M w (.slice A rows.length cap) from ⟨A, cap, rfl, hc, hm, hA, hr⟩) (by omega) (by omega)
    refine ⟨_, ?_, by simpa using h2⟩
    have hb : h ≤ (cap : Int) := by omega
    simp [execOp, ho, hv, h3, Instr.sliceAt, Instr.slice, run_underlying ht, Instr.sliceBounds, Instr.sliceBound, asIntOf, h0, hb, run_size hz]
theorem ok_sliceFrom {t e : TypeId} {x y : Operand} {k : IntKind} {l : Int} {sz : Nat} {rows : List (List Pr)} (ho : o.op = .slice t x (some y) none none) (ht : P.underlying t = some (.slice e)) (hz : sizeB P e = some sz) (hx : VL E x (slice sz rows)) (hy : VL E y (is (.int k l))) (h0 : 0 ≤ l) (hl : l ≤ rows.length) :
    OpOK P I o E (slice sz (rows.drop l.toNat)) :=
  OpOK.same fun M w a he _ => by
    have h1 := hx.ev he (by simp [ho, Op.operands])
    have h3 : a.eval y = _ := hy.ev he (by simp [ho, Op.operands])
    obtain ⟨A, cap, hv, hc, hm, hA, hr⟩ := h1
    have h2 := slice_part (lo := l.toNat) (hi := rows.length) (show (slice sz rows).h M w (.slice A rows.length cap) from ⟨A, cap, rfl, hc, hm, hA, hr⟩) (by omega) (Nat.le_refl _)
    rw [List.take_length] at h2
    refine ⟨_, ?_, h2⟩
    simp [execOp, ho, hv, h3, Instr.sliceAt, Instr.slice, run_underlying ht, Instr.sliceBounds, Instr.sliceBound, asIntOf, h0, hl, run_size hz]
end
end Cp
namespace Cp
open Go Go.RowKit Go.Great

section
variable {P : Program} {n : Nat} {E : Env} {M0 : Av} {w0 : World} {S : Nat → Prop} {rs : List Res} {o : Oper} {g : Func} {M1 : Av} {w1 : World}
/-- The operands, where one slice may be of ours. -/
def ValsO (E : Env) (v0 : Value) (q0 : Pr) : List Operand → List Pr → Prop
  | [], [] => True
  | x :: xs, p :: ps => (VL E x p ∨ (VL E x (is v0) ∧ Pr.le (andIs v0 q0) p)) ∧ ValsO E v0 q0 xs ps
  | _, _ => False
theorem ValsO.ev {M M' : Av} {w : World} {a : Act} {v0 : Value} {q0 : Pr} (he : EnvFor M w E o a) (hx : Ext M w M' w) (h0 : q0.h M' w v0) : ∀ {xs : List Operand} {ps : List Pr}, (∀ x ∈ xs, x ∈ o.op.operands.toList) → ValsO E v0 q0 xs ps → HL M' w ps (xs.map a.eval)
  | [], [], _, _ => trivial
  | [], _ :: _, _, h => h.elim
  | _ :: _, [], _, h => h.elim
  | x :: xs, p :: ps, hm, h => by
    refine ⟨?_, ValsO.ev he hx h0 (fun y hy => hm y (List.mem_cons_of_mem _ hy)) h.2⟩
    rcases h.1 with h1 | ⟨h1, h2⟩
    · exact p.st _ _ _ _ _ hx (h1.ev he (hm x (by simp)))
    · have h3 : a.eval x = v0 := h1.ev he (hm x (by simp))
      exact h2 _ _ _ ⟨h3, by rw [h3]; exact h0⟩
/-- Memory is not read by this. -/
class Free (p : Pr) : Prop where
  free : ∀ M M' w v, p.h M w v → p.h M' w v
instance free_is (u : Value) : Free (is u) := ⟨fun _ _ _ _ h => h⟩
instance free_lens (m : Nat) : Free (lens m) := ⟨fun _ _ _ _ h => h⟩
end
end Cp
namespace Cp
open Go Go.RowKit Go.Great

/-- A map's entries, in the order in which they came. -/
def mkE (es : List (Value × Value)) : Array MapEntry := (es.zipIdx.map fun p => ({ key := p.1.1, val := p.1.2, born := p.2 } : MapEntry)).toArray
theorem mkE_at (es : List (Value × Value)) (i : Nat) : (mkE es)[i]? = (es[i]?).map fun p => { key := p.1, val := p.2, born := i } := by
  simp [mkE, List.getElem?_zipIdx]
  cases es[i]? <;> simp
/-- What the program knows of a map's type: how its keys are compared. -/
structure MapT (P : Program) (T kt et : TypeId) {κ : Type} [DecidableEq κ] (enc : κ → Value) : Prop where
  und : P.underlying T = some (.map kt et)
  zero : ∀ w, (zeroValue et).run P w = .ok (.int .i64 0) w
  eq : ∀ a b w, (Op.equal kt (enc a) (enc b)).run P w = .ok (decide (a = b)) w
  chk : ∀ e a w, (Instr.checkKey e 10000 kt (enc a)).run P w = .ok () w
  und2 : ∃ d, P.underlying kt = some d ∧ ((∀ a b, Instr.sameNow d (enc a) (enc b) = none) ∨ ∀ a b, Instr.sameNow d (enc a) (enc b) = some (decide (a = b)))
  bits : ∀ a, Instr.sameBits 10000 (enc a) (enc a) = true

section
variable {P : Program} {n : Nat} {E : Env} {M0 : Av} {w0 : World} {S : Nat → Prop} {rs : List Res} {o : Oper} {κ : Type} [DecidableEq κ] {enc : κ → Value}

abbrev encE (enc : κ → Value) (es : List (κ × Int)) : List (Value × Value) := es.map fun p => (enc p.1, .int .i64 p.2)
def mapR (enc : κ → Value) (b : Nat) (es : List (κ × Int)) : Res where
  blk := some b
  new := true
  h M w := (∀ o, M b o) ∧ w.heap[b]? = some (.map (mkE (encE enc es)) es.length)
  st M w M' w' he hk h := by
    obtain ⟨h1, h2⟩ := hk b rfl
    exact ⟨fun o => h2 o (h.1 o), h1.trans h.2⟩
/-- What a map holds for a key. -/
def look (es : List (κ × Int)) (k : κ) : Option Int := (es.find? fun p => decide (k = p.1)).map (·.2)
theorem HpH.addR {M : Av} {w : World} {obj : Obj} {r : Res} (h : HpH M0 w0 S rs M w) (hb : r.blk = some w.heap.size) (hn : r.new = true) (hr : r.h (fun b o => M b o ∨ b = w.heap.size) (w.alloc obj)) :
    HpH M0 w0 S (r :: rs) (fun b o => M b o ∨ b = w.heap.size) (w.alloc obj) ∧ Ext M w (fun b o => M b o ∨ b = w.heap.size) (w.alloc obj) := by
  have hbl : Below w.heap.size w (w.alloc obj) := (Below.refl _ _).alloc (Nat.le_refl _) _
  have hsz : (w.alloc obj).heap.size = w.heap.size + 1 := by simp
  have he : Ext M w (fun b o => M b o ∨ b = w.heap.size) (w.alloc obj) := by
    have h2 := Ext.below (M := M) hbl
    refine ⟨h2.size, fun a v hc hm => ⟨fun hx => ?_, (h2.keep a v hc hm).2⟩, fun b o ho hp hm => ⟨fun hx => ?_, (h2.obj b o ho hp hm).2⟩⟩
    · rcases hx with hx | hx
      · exact hm hx
      · have := cell_lt hc; omega
    · rcases hx with hx | hx
      · exact hm hx
      · subst hx; simp at ho
  have hI := (Hp M0 w0 S rs).st _ _ _ hbl h
  refine ⟨⟨hI.m0, fun b o hm => .inl (hI.m b o hm), hI.os, hI.tape, hI.output, hI.size, hI.block, fun b o hm => ?_, fun r' hr' => ?_, ?_⟩, he⟩
  · rcases hm with hm | hm
    · exact hI.bd b o hm
    · omega
  · rcases List.mem_cons.1 hr' with rfl | hr'
    · refine ⟨hr, fun b hbk => ?_⟩
      rw [hb] at hbk
      injection hbk with hbk
      subst hbk
      exact ⟨by omega, by rw [hn]; simpa using h.size⟩
    · obtain ⟨h3, h4⟩ := h.hold r' hr'
      exact ⟨r'.st _ _ _ _ he (fun b hbk => ⟨hbl.block b (h4 b hbk).1, fun _ x => .inl x⟩) h3, fun b hbk => ⟨by have := (h4 b hbk).1; omega, (h4 b hbk).2⟩⟩
  · refine List.Pairwise.cons (fun r' hr' b hbk hbk' => ?_) h.nd
    rw [hb] at hbk
    injection hbk with hbk
    have := ((h.hold r' hr').2 b hbk').1
    omega
def setB (w : World) (b : Nat) (o : Obj) : World := { w with heap := w.heap.setIfInBounds b o }
theorem setB_at {w : World} {b : Nat} {o : Obj} (h : b < w.heap.size) : (setB w b o).heap[b]? = some o := by
  show (w.heap.setIfInBounds b o)[b]? = _
  rw [Array.getElem?_setIfInBounds]; simp [h]
theorem setB_other {w : World} {b k : Nat} {o : Obj} (h : k ≠ b) : (setB w b o).heap[k]? = w.heap[k]? := by
  show (w.heap.setIfInBounds b o)[k]? = _
  rw [Array.getElem?_setIfInBounds, if_neg (fun e => h e.symm)]
theorem HpH.setR {M : Av} {w : World} {obj : Obj} {r r' : Res} {j b : Nat} (h : HpH M0 w0 S rs M w) (hj : rs[j]? = some r) (hb : r.blk = some b) (hb' : r'.blk = some b) (hn : r.new = true) (hn' : r'.new = true) (hM : ∀ o, M b o) (hr : r'.h M (setB w b obj)) :
    HpH M0 w0 S (rs.set j r') M (setB w b obj) ∧ Ext M w M (setB w b obj) := by
  have hlt := ((h.hold r (List.mem_of_getElem? hj)).2 b hb).1
  have hsz : (setB w b obj).heap.size = w.heap.size := by simp [setB]
  have he : Ext M w M (setB w b obj) := by
    refine ⟨by omega, fun a v hc hm => ⟨hm, ?_⟩, fun k o ho hp hm => ⟨hm, ?_⟩⟩
    · rw [World.cell?_of_block (w := w) (setB_other (fun e => hm (by rw [e]; exact hM _)))]; exact hc
    · rw [setB_other (fun e => hm (by rw [e]; exact hM _))]; exact ho
  refine ⟨h.replace hj he rfl rfl rfl (fun k _ hk => setB_other (fun e => hk (by rw [hb, e]))) hn (fun _ _ hm _ => hm) (fun k o hm => by rw [hsz]; exact h.bd k o hm) hr hn' (fun k hk => ?_), he⟩
  rw [hb'] at hk
  injection hk with hk
  subst hk
  exact ⟨by omega, .inl hb⟩

variable {Q : Exit → Act → World → Prop} {ops : Array Oper} {r : List Oper}
def iterR (it b m : Nat) (seen : List Nat) : Res where
  blk := some it
  new := true
  h M w := (∀ o, M it o) ∧ w.heap[it]? = some (.mapIter (some b) m seen.toArray m)
  st M w M' w' he hk h := by
    obtain ⟨h1, h2⟩ := hk it rfl
    exact ⟨fun o => h2 o (h.1 o), h1.trans h.2⟩
theorem TO.range {d j b : Nat} {T kt et : TypeId} {x : Operand} {es : List (κ × Int)} (hT : MapT P T kt et enc) (hg : o.guard = none) (hd : o.dst = some d) (hn : d < n) (ho : o.op = .range T x) (hx : VL E x (is (.map (some b)))) (hj : rs[j]? = some (mapR enc b es))
    (k : ∀ it, TO P n ops r ((d, ptr it 0) :: E) (Hp M0 w0 S (iterR it b es.length [] :: rs)) Q) : TO P n ops (o :: r) E (Hp M0 w0 S rs) Q :=
  TO.eff hg fun K M w a hsz hdf he hI hK => by
    have h1 : a.eval x = _ := hx.ev (o := o) (looks_env he) (by simp [ho, Op.operands])
    obtain ⟨_, hh⟩ := (HpH.hold hI _ (List.mem_of_getElem? hj)).1
    refine TO.val (v := .pointer (some ⟨w.heap.size, 0, none⟩)) (w' := w.alloc (.mapIter (some b) es.length #[] es.length)) ?_ ?_
    · simp [execOp, ho, h1, run_range_map w T kt et b _ _ hT.und hh]
    · obtain ⟨h2, h3⟩ := HpH.addR (obj := .mapIter (some b) es.length #[] es.length) (r := iterR w.heap.size b es.length []) hI rfl rfl ⟨fun _ => .inr rfl, by rw [heap_alloc_new]⟩
      refine hK _ _ _ _ (k w.heap.size) ⟨_, by rw [put_size]; exact hsz, by rw [put_defers]; exact hdf, ?_, h2⟩
      intro s p hp
      simp only [List.lookup] at hp
      by_cases hs : s = d
      · subst hs; simp at hp; subst hp; rw [hd, put_same (by rw [hsz]; exact hn)]; rfl
      · rw [show (s == d) = false by simpa using hs] at hp
        rw [hd, put_other hs]
        exact p.st _ _ _ _ _ h3 (he s p hp)
theorem mem_left {es : List (Value × Value)} {seen : List Nat} {e : MapEntry} : e ∈ (leftOf (mkE es) seen.toArray).toList ↔ ∃ q p, es[q]? = some p ∧ q ∉ seen ∧ e = { key := p.1, val := p.2, born := q } := by
  unfold leftOf
  rw [Array.toList_filter, List.mem_filter]
  constructor
  · rintro ⟨h1, h2⟩
    obtain ⟨q, hq⟩ := List.mem_iff_getElem?.1 h1
    rw [Array.getElem?_toList, mkE_at] at hq
    cases hp : es[q]? with
    | none => rw [hp] at hq; cases hq
    | some p =>
      rw [hp] at hq
      simp only [Option.map_some, Option.some.injEq] at hq
      subst hq
      exact ⟨q, p, hp, by simpa using h2, rfl⟩
  · rintro ⟨q, p, hp, hq, rfl⟩
    exact ⟨List.mem_iff_getElem?.2 ⟨q, by rw [Array.getElem?_toList, mkE_at, hp]; rfl⟩, by simpa using hq⟩
theorem run_next_own {w : World} (ty : TypeId) {it b m : Nat} {seen : List Nat} {es : List (Value × Value)} (hm : es.length = m) (hit : w.heap[it]? = some (.mapIter (some b) m seen.toArray m)) (hb : w.heap[b]? = some (.map (mkE es) m)) :
    ((∀ q, q < m → q ∈ seen) ∧ (Instr.next (.pointer (some ⟨it, 0, none⟩)) false ty).run P w = .ok (.tuple #[.bool false]) w) ∨
    ∃ q p, es[q]? = some p ∧ q ∉ seen ∧ ∃ w1, (w1 = w ∨ w1 = w.drew) ∧ (Instr.next (.pointer (some ⟨it, 0, none⟩)) false ty).run P w = .ok (.tuple #[.bool true, p.1, p.2]) (setB w1 it (.mapIter (some b) m (seen ++ [q]).toArray m)) := by
  have hold : ∀ x ∈ (mkE es).toList, x.born < m := by
    intro x hx
    obtain ⟨q, hq⟩ := List.mem_iff_getElem?.1 hx
    rw [Array.getElem?_toList, mkE_at] at hq
    cases hp : es[q]? with
    | none => rw [hp] at hq; cases hq
    | some p =>
      rw [hp] at hq
      simp only [Option.map_some, Option.some.injEq] at hq
      subst hq
      show q < m
      rcases Nat.lt_or_ge q es.length with h | h
      · omega
      · rw [List.getElem?_eq_none h] at hp; cases hp
  simp only [Instr.next, getObj, Sem.run_bind, Sem.run, hit, hb, Result.andThen, next_test_false seen.toArray (mkE es) m m hold (Nat.le_refl _), Bool.false_eq_true, if_false]
  have hleft : (mkE es).filter (fun e => !seen.toArray.contains e.born) = leftOf (mkE es) seen.toArray := rfl
  rw [hleft]
  have hmem : ∀ x ∈ (leftOf (mkE es) seen.toArray).toList, x.born < m := fun x hx => by
    obtain ⟨q, p, h1, _, rfl⟩ := mem_left.1 hx
    rcases Nat.lt_or_ge q es.length with h | h
    · show q < m; omega
    · rw [List.getElem?_eq_none h] at h1; cases h1
  have hml : ∀ e, e ∈ (leftOf (mkE es) seen.toArray).toList ↔ ∃ q p, es[q]? = some p ∧ q ∉ seen ∧ e = { key := p.1, val := p.2, born := q } := fun e => mem_left
  generalize leftOf (mkE es) seen.toArray = L at hmem hml ⊢
  have e1 : L.filter (fun x => decide (x.born < m)) = L := Array.filter_eq_self.2 (fun x hx => by simpa using hmem x (by simpa using hx))
  have e2 : L.filter (fun x => decide (x.born ≥ m)) = #[] := by
    rw [Array.filter_eq_empty_iff]
    intro x hx
    have := hmem x (by simpa using hx)
    simp
    omega
  simp only [e1, e2, Array.append_empty]
  by_cases h0 : L.size = 0
  · left
    have hL : L = #[] := Array.eq_empty_of_size_eq_zero h0
    refine ⟨fun q hq => ?_, ?_⟩
    · rcases Classical.em (q ∈ seen) with h | h
      · exact h
      · have := (hml { key := (es[q]'(by omega)).1, val := (es[q]'(by omega)).2, born := q }).2 ⟨q, es[q]'(by omega), List.getElem?_eq_getElem (by omega), h, rfl⟩
        rw [hL] at this; simp at this
    · subst hL
      simp [choose, Sem.run, Question.forced]
  · right
    have hne : L.isEmpty = false := by simp [Array.isEmpty, h0]
    simp only [hne, Bool.false_eq_true, if_false, Array.empty_append, Array.size_map]
    have hch : ∃ (j : Nat) (w1 : World), j < L.size ∧ (w1 = w ∨ w1 = w.drew) ∧ (choose (Question.mapNext L.size)).run P w = .ok j w1 := by
      by_cases hf : L.size ≤ 1
      · exact ⟨0, w, by omega, .inl rfl, by simp [choose, Sem.run, Question.forced, hf]⟩
      · exact ⟨_, w.drew, Nat.mod_lt _ (by omega), .inr rfl, by
          simp only [choose, Sem.run, Question.forced, decide_eq_true_eq, hf, if_false, Question.cut]
          rfl⟩
    obtain ⟨j, w1, hj, hal, hrun⟩ := hch
    obtain ⟨q, p, hq1, hq2, hq3⟩ := (hml L[j]).1 (by simp)
    refine ⟨q, p, hq1, hq2, w1, hal, ?_⟩
    have hw1 : w1.heap = w.heap := by rcases hal with rfl | rfl <;> rfl
    have hset : ∀ (o' : Obj), (setObj it o').run P w1 = .ok () (setB w1 it o') := fun o' => by
      have hit1 : w1.heap[it]? = some (.mapIter (some b) m seen.toArray m) := by rw [hw1]; exact hit
      simp only [setObj, Sem.run, hit1]
      rfl
    simp only [hrun, Array.getElem?_map, Array.getElem?_eq_getElem hj, Option.map_some, Sem.run_bind, hset, Result.andThen]
    rw [hq3]
    simp

omit [DecidableEq κ] in
theorem TO.next {d i j it b : Nat} {x : Operand} {es : List (κ × Int)} {seen : List Nat} (hg : o.guard = none) (hd : o.dst = some d) (hn : d < n) (ho : o.op = .next x false) (hx : VL E x (ptr it 0)) (hi : rs[i]? = some (iterR it b es.length seen)) (hj : rs[j]? = some (mapR enc b es))
    (k1 : (∀ q, q < es.length → q ∈ seen) → TO P n ops r ((d, tup [bool false]) :: E) (Hp M0 w0 S rs) Q)
    (k2 : ∀ q p, es[q]? = some p → q ∉ seen → TO P n ops r ((d, tup [bool true, is (enc p.1), int p.2]) :: E) (Hp M0 w0 S (rs.set i (iterR it b es.length (seen ++ [q])))) Q) : TO P n ops (o :: r) E (Hp M0 w0 S rs) Q :=
  TO.eff hg fun K M w a hsz hdf he hI hK => by
    have h1 : a.eval x = .pointer (some ⟨it, 0, none⟩) := hx.ev (o := o) (looks_env he) (by simp [ho, Op.operands])
    obtain ⟨⟨hMi, hit⟩, hbi⟩ := HpH.hold hI _ (List.mem_of_getElem? hi)
    obtain ⟨_, hh⟩ := (HpH.hold hI _ (List.mem_of_getElem? hj)).1
    have hlt := (hbi it rfl).1
    rcases run_next_own (P := P) o.type (es := encE enc es) (by simp [encE]) hit hh with ⟨h2, h3⟩ | ⟨q, p, h2, h3, w1, h4, h5⟩
    · refine TO.val (v := .tuple #[.bool false]) (w' := w) ?_ ?_
      · simp [execOp, ho, h1, h3]
      · refine hK _ _ _ _ (k1 h2) ⟨M, by rw [put_size]; exact hsz, by rw [put_defers]; exact hdf, ?_, hI⟩
        intro s p hp
        simp only [List.lookup] at hp
        by_cases hs : s = d
        · subst hs; simp at hp; subst hp; rw [hd, put_same (by rw [hsz]; exact hn)]; exact ⟨_, rfl, rfl, trivial⟩
        · rw [show (s == d) = false by simpa using hs] at hp
          rw [hd, put_other hs]; exact he s p hp
    · have hes : ∃ p', es[q]? = some p' ∧ p = (enc p'.1, .int .i64 p'.2) := by
        simp only [encE, List.getElem?_map] at h2
        cases h : es[q]? with
        | none => rw [h] at h2; cases h2
        | some p' => rw [h] at h2; simp at h2; exact ⟨p', rfl, h2.symm⟩
      obtain ⟨p', hp', rfl⟩ := hes
      refine TO.val (v := .tuple #[.bool true, enc p'.1, .int .i64 p'.2]) (w' := setB w1 it (.mapIter (some b) es.length (seen ++ [q]).toArray es.length)) ?_ ?_
      · simp [execOp, ho, h1, h5]
      · have hbel : Below w.heap.size w w1 := by
          rcases h4 with rfl | rfl
          · exact Below.refl _ _
          · exact (Below.refl _ _).drew
        have hI1 := (Hp M0 w0 S rs).st _ _ _ hbel hI
        obtain ⟨h6, h7⟩ := HpH.setR (obj := .mapIter (some b) es.length (seen ++ [q]).toArray es.length) (r' := iterR it b es.length (seen ++ [q])) hI1 hi rfl rfl rfl rfl hMi ⟨hMi, setB_at (Nat.lt_of_lt_of_le hlt hbel.size)⟩
        refine hK _ _ _ _ (k2 q p' hp' h3) ⟨M, by rw [put_size]; exact hsz, by rw [put_defers]; exact hdf, ?_, h6⟩
        intro s p hp
        simp only [List.lookup] at hp
        by_cases hs : s = d
        · subst hs; simp at hp; subst hp; rw [hd, put_same (by rw [hsz]; exact hn)]; exact ⟨_, rfl, rfl, rfl, rfl, trivial⟩
        · rw [show (s == d) = false by simpa using hs] at hp
          rw [hd, put_other hs]
          exact p.st _ _ _ _ _ ((Ext.below hbel).trans h7) (he s p hp)
omit [DecidableEq κ] in
theorem TO.entry {d i j it b q : Nat} {x : Operand} {es : List (κ × Int)} {seen : List Nat} {p : κ × Int} (hg : o.guard = none) (hd : o.dst = some d) (hn : d < n) (ho : o.op = .entry x) (hx : VL E x (ptr it 0)) (hi : rs[i]? = some (iterR it b es.length (seen ++ [q]))) (hj : rs[j]? = some (mapR enc b es)) (hq : es[q]? = some p)
    (k : TO P n ops r ((d, tup [is (enc p.1), int p.2]) :: E) (Hp M0 w0 S rs) Q) : TO P n ops (o :: r) E (Hp M0 w0 S rs) Q :=
  TO.eff hg fun K M w a hsz hdf he hI hK => by
    have h1 : a.eval x = .pointer (some ⟨it, 0, none⟩) := hx.ev (o := o) (looks_env he) (by simp [ho, Op.operands])
    obtain ⟨⟨_, hit⟩, _⟩ := HpH.hold hI _ (List.mem_of_getElem? hi)
    obtain ⟨_, hh⟩ := (HpH.hold hI _ (List.mem_of_getElem? hj)).1
    have hat : (mkE (encE enc es))[q]? = some { key := enc p.1, val := .int .i64 p.2, born := q } := by rw [mkE_at]; simp [encE, hq]
    have hnd : ((mkE (encE enc es)).toList.map (·.born)).Nodup := by
      have : (mkE (encE enc es)).toList.map (·.born) = List.range (encE enc es).length := by
        apply List.ext_getElem?
        intro k
        rw [List.getElem?_map, Array.getElem?_toList, mkE_at]
        by_cases hk : k < (encE enc es).length
        · rw [List.getElem?_range hk, List.getElem?_eq_getElem hk]; rfl
        · rw [List.getElem?_eq_none (Nat.le_of_not_lt hk), List.getElem?_eq_none (by simp at hk ⊢; omega)]; rfl
      rw [this]; exact List.nodup_range
    have hfind : (mkE (encE enc es)).find? (fun e => e.born == q) = some { key := enc p.1, val := .int .i64 p.2, born := q } := by
      rw [← Array.find?_toList]
      exact find_born { key := enc p.1, val := .int .i64 p.2, born := q } _ hnd (List.mem_iff_getElem?.2 ⟨q, by rw [Array.getElem?_toList]; exact hat⟩)
    refine TO.val (v := .tuple #[enc p.1, .int .i64 p.2]) (w' := w) ?_ ?_
    · have : (Instr.entry (.pointer (some ⟨it, 0, none⟩))).run P w = .ok (.tuple #[enc p.1, .int .i64 p.2]) w := by
        have hb : (seen ++ [q]).toArray.back? = some q := by simp
        simp only [Instr.entry, getObj, Sem.run_bind, Sem.run, hit, hh, Result.andThen, hb, bne_self_eq_false, Bool.false_eq_true, if_false, hfind]
        rfl
      simp [execOp, ho, h1, this]
    · refine hK _ _ _ _ k ⟨M, by rw [put_size]; exact hsz, by rw [put_defers]; exact hdf, ?_, hI⟩
      intro s p hp
      simp only [List.lookup] at hp
      by_cases hs : s = d
      · subst hs; simp at hp; subst hp; rw [hd, put_same (by rw [hsz]; exact hn)]; exact ⟨_, rfl, rfl, rfl, trivial⟩
      · rw [show (s == d) = false by simpa using hs] at hp
        rw [hd, put_other hs]; exact he s p hp
end

section
variable {P : Program}
end
end Cp
namespace Cp
open Go Go.RowKit Go.Great

section
variable {P : Program} {n : Nat} {E : Env} {M0 : Av} {w0 : World} {S : Nat → Prop} {rs : List Res} {o : Oper}

theorem run_append_void (w : World) (A : Option Addr) (t ty e : TypeId) (i : TypeInfo) (z : Value) (ht : P.underlying t = some (.slice e)) (hi : P.info? e = some i) (hz : i.zero = some z)
    (a : Addr) (n c : Nat) (news : List Value) (hl : news.length = n * i.size) (hnews : ∀ j v, news[j]? = some v → w.cell? (a.add j) = some v)
    (h0 : 0 < n) (h63 : (n : Int) ≤ 9223372036854775807) (h48 : n * i.bytes ≤ 281474976710656) :
    (Builtin.append_ #[t, t] ty #[.slice A 0 0, .slice (some a) n c]).run P w =
      .ok (.slice (some ⟨w.heap.size, 0, none⟩) n (grownCap w n 0 e)) (w.drew.alloc (.cells (news.toArray ++ Builtin.zeroCells z.cells (grownCap w n 0 e - n)) e)) := by
  cases A with
  | none => exact run_append_nil (w := w) t ty e i z ht hi hz a n c news hl hnews h0 h63 h48
  | some b =>
    have := run_append_grow (w := w) t ty e i z ht hi hz b 0 0 [] (by simp) (by simp) a n c news hl hnews (by omega) (by simpa using h63) (by rw [Nat.zero_add, nextslicecap_zero h0]; exact h48)
    simpa using this

/-- append onto a slice of nothing. -/
theorem app_void {M : Av} {w : World} {t ty e : TypeId} {sz bytes : Nat} {zs : List Value} {rows : List (List Pr)} {u : Value} {j : Nat} (A : Option Addr) (ht : P.underlying t = some (.slice e)) (hz : sizeB P e = some sz) (hby : bytesB P e = some bytes) (hze : zeroB P e = some zs) (hzl : zs.length = sz) (hone : zs.all (·.oneCell') = true) (hsz : 0 < sz)
    (h : HpH M0 w0 S rs M w) (hj : rs[j]? = some noRes) (hu : (slice sz rows).h M w u) (hpos : 0 < rows.length) (hmax : rows.length ≤ maxLen) (hfit : rows.length * bytes ≤ 140737488355328) :
    ∃ v' w' M', (Builtin.append_ #[t, t] ty #[.slice A 0 0, u]).run P w = .ok v' w' ∧ (lens rows.length).h M' w' v' ∧ Ext M w M' w' ∧ HpH M0 w0 S (rs.set j (mutRes e sz rows v')) M' w' := by
  unfold sizeB at hz
  unfold bytesB at hby
  unfold zeroB at hze
  cases hi : P.info? e with
  | none => rw [hi] at hz; cases hz
  | some i =>
    rw [hi] at hz hby hze
    simp only [Option.map_some, Option.some.injEq, Option.map_eq_some_iff] at hz hby hze
    obtain ⟨z, hzz, hze⟩ := hze
    have hzc : z.cells.size = sz := by rw [← hzl, ← hze]; simp
    obtain ⟨A', c', rfl, hmc, hcm', hA', hrows'⟩ := hu
    have hu0 : (slice sz rows).h M w (.slice A' rows.length c') := ⟨A', c', rfl, hmc, hcm', hA', hrows'⟩
    obtain ⟨ad', rfl⟩ : ∃ ad', A' = some ad' := by
      obtain ⟨_, b, hb, _⟩ := hrows' 0 _ (List.getElem?_eq_getElem hpos)
      exact ⟨b, hb⟩
    obtain ⟨news, hfl, hcell⟩ := slice_flat hsz hu0
    have hrun := run_append_void (P := P) w A t ty e i z ht hi hzz ad' rows.length c' news (by rw [hz]; exact hfl.1) (fun k u hk => (hcell k u hk).1) hpos (by unfold maxLen at hmax; omega) (by rw [hby]; omega)
    generalize hcap : grownCap w rows.length 0 e = cap at hrun
    have hge : rows.length ≤ cap := by rw [← hcap]; exact grownCap_ge _ _ _ _
    have hle : cap ≤ maxLen := by rw [← hcap]; exact grownCap_le_maxLen _ _ _ _ hmax
    generalize hzc' : Builtin.zeroCells z.cells (cap - rows.length) = zc at hrun
    have hzs : zc.size = (cap - rows.length) * sz := by rw [← hzc', size_zeroCells, hzc]
    have hzo : ∀ c ∈ zc.toList, c.oneCell' = true := by rw [← hzc']; exact zeroCells_one hze hone
    have hb : Below w.heap.size w (w.drew.alloc (.cells (news.toArray ++ zc) e)) := ((Below.refl _ _).drew).alloc (Nat.le_refl _) _
    have h2 := Ext.below (M := M) hb
    have hext : Ext M w (fun b o => M b o ∨ b = w.heap.size) (w.drew.alloc (.cells (news.toArray ++ zc) e)) := by
      refine ⟨h2.size, fun a v hc hm => ⟨fun hx => ?_, (h2.keep a v hc hm).2⟩, fun b o ho hp hm => ⟨fun hx => ?_, (h2.obj b o ho hp hm).2⟩⟩
      · rcases hx with hx | hx
        · exact hm hx
        · have := cell_lt hc; omega
      · rcases hx with hx | hx
        · exact hm hx
        · subst hx; simp at ho
    have hs1 : (w.drew.alloc (.cells (news.toArray ++ zc) e)).heap.size = w.heap.size + 1 := by simp
    refine ⟨_, _, fun b o => M b o ∨ b = w.heap.size, hrun, ⟨_, _, rfl⟩, hext, ?_⟩
    refine h.replace hj hext hb.os hb.tape hb.output (fun k hk _ => hb.block k hk) rfl (fun b o hm _ => .inl hm) (fun b o hx => ?_) ?_ rfl (fun b hbk => ?_)
    · rcases hx with hx | hx
      · have := h.bd _ _ hx; omega
      · omega
    · refine ⟨w.heap.size, cap, zc.toList, rfl, hge, hle, by simpa using hzs, fun o => .inr rfl, news ++ zc.toList, ?_, ?_, ?_⟩
      · have hh : (w.drew.alloc (.cells (news.toArray ++ zc) e)).heap[w.heap.size]? = some (.cells (news.toArray ++ zc) e (0, 0)) := heap_alloc_new w.drew _
        rw [hh]; simp
      · exact ((hfl.st hext).hl hsz).app (hl_is _ _ _)
      · intro c hc
        rcases List.mem_append.1 hc with hc | hc
        · exact hfl.2.1 c hc
        · exact hzo c hc
    · have hbk' : some w.heap.size = some b := hbk
      injection hbk' with e1
      subst e1
      exact ⟨by rw [hs1]; omega, .inr (Nat.le_refl _)⟩
theorem ef_appvoid {t e : TypeId} {x y : Operand} {sz' : Nat} {sz bytes d : Nat} {zs : List Value} {rows : List (List Pr)} {j : Nat} (hg : o.guard = none) (hd : o.dst = some d) (hn : d < n) (ho : o.op = .call { callee := .builtin .append, args := #[x, y], argTypes := #[t, t] })
    (ht : P.underlying t = some (.slice e)) (hz : sizeB P e = some sz) (hby : bytesB P e = some bytes) (hze : zeroB P e = some zs) (hzl : zs.length = sz) (hone : zs.all (·.oneCell') = true) (hsz : 0 < sz)
    (hx : VL E x (full sz' [])) (hy : VL E y (slice sz rows)) (hpos : 0 < rows.length) (hmax : rows.length ≤ maxLen) (hfit : rows.length * bytes ≤ 140737488355328) : OpEf P M0 w0 S n j (SR.c noRes) ⟨d, mutRes e sz rows⟩ o E (lens rows.length) := by
  refine ⟨hg, fun M w a rs hszn he hI hj => ?_⟩
  have h2 := hy.ev he (by simp [ho, Op.operands, Call.operands])
  obtain ⟨_, A, h1⟩ := hx.ev he (by simp [ho, Op.operands, Call.operands])
  simp only [List.length_nil] at h1
  obtain ⟨v', w', M', hrun, h3, h4, h5⟩ := app_void A (ty := o.type) ht hz hby hze hzl hone hsz hI hj h2 hpos hmax hfit
  have hrun2 : (execOp a.eval o).run P w = .ok (.value v') w' := by simp [execOp, ho, resolve, invoke, builtin, h1, hrun]
  rw [hrun2]
  refine ⟨M', h3, h4, ?_⟩
  have : (SR.at_ (a.put o.dst v') ⟨d, mutRes e sz rows⟩) = mutRes e sz rows v' := by unfold SR.at_ Slot.val; dsimp only; rw [hd, put_same (by rw [hszn]; exact hn)]
  rw [this]; exact h5


theorem okb_len {I : Asn} {t e : TypeId} {x : Operand} {A : Option Addr} {m cap : Nat} (ho : o.op = .call { callee := .builtin .len, args := #[x], argTypes := #[t] }) (ht : P.underlying t = some (.slice e)) (hx : VL E x (is (.slice A m cap))) : OpOK P I o E (int m) :=
  OpOK.same fun M w a he _ => by
    have h1 : a.eval x = _ := hx.ev he (by simp [ho, Op.operands, Call.operands])
    exact ⟨.int .i64 m, by simp [execOp, ho, resolve, invoke, builtin, Builtin.len_, h1, run_underlying ht, goInt], rfl⟩
theorem okb_sliceTo {I : Asn} {t e : TypeId} {x y : Operand} {k : IntKind} {h : Int} {sz b m cap : Nat} (ho : o.op = .slice t x none (some y) none) (ht : P.underlying t = some (.slice e)) (hz : sizeB P e = some sz) (hx : VL E x (is (.slice (some ⟨b, 0, none⟩) m cap))) (hy : VL E y (is (.int k h))) (h0 : 0 ≤ h) (hl : h ≤ m) (hc : m ≤ cap) (h1m : 0 < cap) :
    OpOK P I o E (is (.slice (some ⟨b, 0, none⟩) h.toNat cap)) :=
  OpOK.same fun M w a he _ => by
    have h1 : a.eval x = _ := hx.ev he (by simp [ho, Op.operands])
    have h3 : a.eval y = _ := hy.ev he (by simp [ho, Op.operands])
    have hb : h ≤ (cap : Int) := by omega
    refine ⟨_, ?_, rfl⟩
    simp [execOp, ho, h1, h3, Instr.sliceAt, Instr.slice, run_underlying ht, Instr.sliceBounds, Instr.sliceBound, asIntOf, h0, hb, run_size hz]
    intro _; rfl
theorem okb_sliceFrom {I : Asn} {t e : TypeId} {x y : Operand} {k : IntKind} {l : Int} {sz b m cap : Nat} (ho : o.op = .slice t x (some y) none none) (ht : P.underlying t = some (.slice e)) (hz : sizeB P e = some sz) (hx : VL E x (is (.slice (some ⟨b, 0, none⟩) m cap))) (hy : VL E y (is (.int k l))) (h0 : 0 ≤ l) (hl : l < m) (hc : m ≤ cap) :
    OpOK P I o E (is (.slice (some ⟨b, l.toNat * sz, none⟩) (m - l.toNat) (cap - l.toNat))) :=
  OpOK.same fun M w a he _ => by
    have h1 : a.eval x = _ := hx.ev he (by simp [ho, Op.operands])
    have h3 : a.eval y = _ := hy.ev he (by simp [ho, Op.operands])
    have hb : l ≤ (m : Int) := by omega
    have hne : ¬ cap = l.toNat := by omega
    refine ⟨_, ?_, rfl⟩
    simp [execOp, ho, h1, h3, Instr.sliceAt, Instr.slice, run_underlying ht, Instr.sliceBounds, Instr.sliceBound, asIntOf, h0, hb, run_size hz, hne, addr_add]
theorem zero_hl {M : Av} {w : World} {zs : List Value} {z : Array Value} {k : Nat} (hz : z.toList = zs) (h0 : 0 < zs.length) : HL M w (List.replicate k (zs.map is)).flatten (Builtin.zeroCells z k).toList := by
  have hlr : ∀ r ∈ List.replicate k (zs.map is), r.length = zs.length := fun r hr => by rw [List.eq_of_mem_replicate hr, List.length_map]
  have hfl := flat_len hlr
  rw [List.length_replicate] at hfl
  have hzs : z.size = zs.length := by rw [← hz]; simp
  refine hl_of (by rw [Array.length_toList, size_zeroCells, hfl, hzs]) fun i p hi => ?_
  have hil : i < k * zs.length := by rw [← hfl]; rcases Nat.lt_or_ge i (List.replicate k (zs.map is)).flatten.length with h | h; exact h; rw [List.getElem?_eq_none h] at hi; cases hi
  have hq : i / zs.length < k := Nat.div_lt_of_lt_mul (by rw [Nat.mul_comm]; exact hil)
  have hm : i % zs.length < zs.length := Nat.mod_lt _ h0
  have he : i / zs.length * zs.length + i % zs.length = i := by rw [Nat.mul_comm]; exact Nat.div_add_mod i _
  rw [← he, flat_at hlr (by rw [List.getElem?_replicate, if_pos hq]) hm, List.getElem?_map, List.getElem?_eq_getElem hm] at hi
  simp only [Option.map_some, Option.some.injEq] at hi
  subst hi
  refine ⟨zs[i % zs.length], ?_, rfl⟩
  have hzl : i < k * z.size := by rw [hzs]; exact hil
  simp only [Builtin.zeroCells, Array.toList_map, Array.toList_range, List.getElem?_map]
  rw [List.getElem?_range hzl]
  subst hz
  simp only [Option.map_some, Option.some.injEq]
  have hm' : i % z.size < z.size := by rw [hzs]; exact hm
  rw [getElem!_pos z _ hm', ← Array.getElem_toList]
  congr 1
theorem ef_clear {t e : TypeId} {x : Operand} {j : Nat} {new : Bool} {b off m cap sz : Nat} {zs : List Value} {T : TypeId} {ps ps' : List Pr} (hg : o.guard = none) (ho : o.op = .call { callee := .builtin .clear, args := #[x], argTypes := #[t] })
    (ht : P.underlying t = some (.slice e)) (hz : sizeB P e = some sz) (hze : zeroB P e = some zs) (hzl : zs.length = sz) (hone : zs.all (·.oneCell') = true) (hsz : 0 < sz) (hx : VL E x (is (.slice (some ⟨b, off, none⟩) m cap))) (hm : 0 < m)
    (hl : off + m * sz ≤ ps.length) (hps : ps.take off ++ (List.replicate m (zs.map is)).flatten ++ ps.drop (off + m * sz) = ps') : OpEf P M0 w0 S n j (SR.c (cellsRes new b T ps)) (SR.c (cellsRes new b T ps')) o E any := by
  refine ⟨hg, fun M w a rs hszn he hI hj => ?_⟩
  have h1 : a.eval x = _ := hx.ev he (by simp [ho, Op.operands, Call.operands])
  unfold zeroB at hze
  cases hi : P.info? e with
  | none => rw [hi] at hze; cases hze
  | some i =>
    rw [hi] at hze
    simp only [Option.map_eq_some_iff] at hze
    obtain ⟨z, hzz, hze⟩ := hze
    have hzc : z.cells.size = sz := by rw [← hzl, ← hze]; simp
    obtain ⟨⟨_, cs, h4, h5, h6⟩, _⟩ := hI.hold _ (List.mem_of_getElem? hj)
    have h5l := h5.length
    have hzs : (Builtin.zeroCells z.cells m).size = m * sz := by rw [size_zeroCells, hzc]
    have h3 : ∀ c ∈ (Builtin.zeroCells z.cells m).toList, c.oneCell' = true := zeroCells_one hze hone
    have hrun : (storeCells ⟨b, off, none⟩ (Builtin.zeroCells z.cells m).toList 0).run P w = .ok () (w.setRow b (cs.take off ++ (Builtin.zeroCells z.cells m).toList ++ cs.drop (off + m * sz)).toArray) := by
      have := run_storeCells_at (P := P) b off T (Builtin.zeroCells z.cells m).toList 0 cs.toArray w h4 (by simp [hzs]; omega) h3
      simpa [hzs] using this
    obtain ⟨m', rfl⟩ : ∃ m', m = m' + 1 := ⟨m - 1, by omega⟩
    have hrun2 : (execOp a.eval o).run P w = .ok (.value (.tuple #[])) (w.setRow b (cs.take off ++ (Builtin.zeroCells z.cells (m' + 1)).toList ++ cs.drop (off + (m' + 1) * sz)).toArray) := by
      simp [execOp, ho, h1, resolve, invoke, builtin, Builtin.clear_, run_underlying ht, zeroValue, typeInfo, hi, hzz, hrun]
    rw [hrun2]
    obtain ⟨h7, h8⟩ := HpH.write (qs := ps') (cs := cs.take off ++ (Builtin.zeroCells z.cells (m' + 1)).toList ++ cs.drop (off + (m' + 1) * sz)) hI hj (by rw [← hps]; exact (((h5.take off).app (zero_hl hze (by omega)))).app (h5.drop (off + (m' + 1) * sz)))
      (fun c hc => by
        simp only [List.mem_append] at hc
        rcases hc with (hc | hc) | hc
        · exact h6 c (List.mem_of_mem_take hc)
        · exact h3 c hc
        · exact h6 c (List.mem_of_mem_drop hc))
    exact ⟨M, trivial, h8, h7⟩

theorem TO.openM {ops : Array Oper} {r : List Oper} {Q : Exit → Act → World → Prop} {e : TypeId} {sz : Nat} {rows : List (List Pr)} {v : Value} (j : Nat) (hj : rs[j]? = some (mutRes e sz rows v))
    (k : ∀ (b cap : Nat) (spare : List Value), v = .slice (some ⟨b, 0, none⟩) rows.length cap → rows.length ≤ cap → cap ≤ maxLen → spare.length = (cap - rows.length) * sz → TO P n ops r E (Hp M0 w0 S (rs.set j (cellsRes true b e (rows.flatten ++ spare.map is)))) Q) : TO P n ops r E (Hp M0 w0 S rs) Q :=
  fun m hl a w hs => let ⟨b, cap, spare, h1, h2, h3, h4, h5⟩ := hs.openM j hj; k b cap spare h1 h2 h3 h4 m hl a w h5
theorem map_rows {β : Type} {f : β → List Pr} {l : List β} {sz : Nat} (hf : ∀ x, (f x).length = sz) : ∀ r ∈ l.map f, r.length = sz := fun r hr => by obtain ⟨y, _, rfl⟩ := List.mem_map.1 hr; exact hf y
theorem St.frzS {b cap sz : Nat} {e : TypeId} {rows : List (List Pr)} {qs : List Pr} (j d : Nat) {p : Pr} (hj : rs[j]? = some (cellsRes true b e (rows.flatten ++ qs))) (hd : E.lookup d = some p) (hp : Pr.le p (is (.slice (some ⟨b, 0, none⟩) rows.length cap)))
    (hl : ∀ r ∈ rows, r.length = sz) (hc : rows.length ≤ cap) (hm : cap ≤ maxLen) (hq : qs.length = (cap - rows.length) * sz)
    {a : Act} {w : World} (h : St n E (Hp M0 w0 S rs) a w) : St n ((d, andIs (.slice (some ⟨b, 0, none⟩) rows.length cap) (slice sz rows)) :: E) (Hp M0 w0 S (rs.set j (appRes e sz (.slice (some ⟨b, 0, none⟩) rows.length cap)))) a w := by
  obtain ⟨M, h1, h2, h3, h4⟩ := h
  obtain ⟨M', h5, h6, h7⟩ := HpH.frz h4 hj hl hc hm hq
  refine ⟨M', h1, h2, fun s q hs => ?_, h6⟩
  simp only [List.lookup] at hs
  split at hs
  · rename_i e1
    have : s = d := by simpa using e1
    subst this
    simp only [Option.some.injEq] at hs
    subst hs
    have h8 := hp _ _ _ (h3 _ _ hd)
    exact ⟨h8, by rw [show a.tmps.getD s undef = _ from h8]; exact h7⟩
  · exact q.st _ _ _ _ _ h5 (h3 s q hs)
theorem Tr.frzS {Q : Exit → Act → World → Prop} {c : Code} {b cap sz : Nat} {e : TypeId} (rows : List (List Pr)) {qs : List Pr} (j d : Nat) {p : Pr} (hj : rs[j]? = some (cellsRes true b e (rows.flatten ++ qs))) (hd : E.lookup d = some p) (hp : Pr.le p (is (.slice (some ⟨b, 0, none⟩) rows.length cap)))
    (hl : ∀ r ∈ rows, r.length = sz) (hc : rows.length ≤ cap) (hm : cap ≤ maxLen) (hq : qs.length = (cap - rows.length) * sz)
    (k : Tr P n ((d, andIs (.slice (some ⟨b, 0, none⟩) rows.length cap) (slice sz rows)) :: E) (Hp M0 w0 S (rs.set j (appRes e sz (.slice (some ⟨b, 0, none⟩) rows.length cap)))) c Q) : Tr P n E (Hp M0 w0 S rs) c Q :=
  Tr.conv (fun _ _ hs => hs.frzS j d hj hd hp hl hc hm hq) k
theorem Fin.frzS {Q : Exit → Act → World → Prop} {x : Exit} {b cap sz : Nat} {e : TypeId} (rows : List (List Pr)) {qs : List Pr} (j d : Nat) {p : Pr} (hj : rs[j]? = some (cellsRes true b e (rows.flatten ++ qs))) (hd : E.lookup d = some p) (hp : Pr.le p (is (.slice (some ⟨b, 0, none⟩) rows.length cap)))
    (hl : ∀ r ∈ rows, r.length = sz) (hc : rows.length ≤ cap) (hm : cap ≤ maxLen) (hq : qs.length = (cap - rows.length) * sz)
    (k : Fin n ((d, andIs (.slice (some ⟨b, 0, none⟩) rows.length cap) (slice sz rows)) :: E) (Hp M0 w0 S (rs.set j (appRes e sz (.slice (some ⟨b, 0, none⟩) rows.length cap)))) Q x) : Fin n E (Hp M0 w0 S rs) Q x :=
  Fin.conv (fun _ _ hs => hs.frzS j d hj hd hp hl hc hm hq) k
end
end Cp
namespace Cp
open Go Go.RowKit Go.Great

section
variable {P : Program} {n : Nat} {E : Env} {M0 : Av} {w0 : World} {S : Nat → Prop} {rs : List Res} {o : Oper} {g : Func} {M1 : Av} {w1 : World}
def ptrRes (T : TypeId) (ps : List Pr) (v : Value) : Res := match v with | .pointer (some a) => cellsRes true a.block T ps | _ => noRes
theorem ef_allocX {d j : Nat} {T : TypeId} {zs : List Value} (hg : o.guard = none) (hd : o.dst = some d) (hn : d < n) (ho : o.op = .alloc T) (hz : zeroB P T = some zs) (h1' : zs.all (·.oneCell') = true) :
    OpEf P M0 w0 S n j (SR.c noRes) ⟨d, ptrRes T (zs.map is)⟩ o E (Cp.ex fun b => ptr b 0) := by
  refine ⟨hg, fun M w a rs hszn he hI hj => ?_⟩
  have h1 : ∀ c ∈ zs, c.oneCell' = true := fun c hc => List.all_eq_true.1 h1' c hc
  obtain ⟨z, hz1, hz2⟩ := run_zero hz w
  have hrun : (execOp a.eval o).run P w = .ok (.value (.pointer (some ⟨w.heap.size, 0, none⟩))) (w.alloc (.cells zs.toArray T)) := by simp [execOp, ho, Instr.alloc, hz1, newVar, newRow, ← hz2]
  rw [hrun]
  have hb : Below w.heap.size w (w.alloc (.cells zs.toArray T)) := (Below.refl _ _).alloc (Nat.le_refl _) _
  have h2 := Ext.below (M := M) hb
  have hext : Ext M w (fun b o => M b o ∨ b = w.heap.size) (w.alloc (.cells zs.toArray T)) := by
    refine ⟨h2.size, fun a v hc hm => ⟨fun hx => ?_, (h2.keep a v hc hm).2⟩, fun b o ho hp hm => ⟨fun hx => ?_, (h2.obj b o ho hp hm).2⟩⟩
    · rcases hx with hx | hx
      · exact hm hx
      · have := cell_lt hc; omega
    · rcases hx with hx | hx
      · exact hm hx
      · subst hx; simp at ho
  have hs1 : (w.alloc (.cells zs.toArray T)).heap.size = w.heap.size + 1 := by simp
  have hat : (SR.at_ (a.put o.dst (.pointer (some ⟨w.heap.size, 0, none⟩))) ⟨d, ptrRes T (zs.map is)⟩) = cellsRes true w.heap.size T (zs.map is) := by unfold SR.at_ Slot.val; dsimp only; rw [hd, put_same (by rw [hszn]; exact hn)]; rfl
  refine ⟨fun b o => M b o ∨ b = w.heap.size, ⟨_, rfl⟩, hext, ?_⟩
  rw [hat]
  refine hI.replace hj hext hb.os hb.tape hb.output (fun k hk _ => hb.block k hk) rfl (fun b o hm _ => .inl hm) (fun b o hx => ?_) ?_ rfl (fun b hbk => ?_)
  · rcases hx with hx | hx
    · have := hI.bd _ _ hx; omega
    · omega
  · refine ⟨fun o => .inr rfl, zs, heap_alloc_new w _, hl_is _ _ _, h1⟩
  · have hbk' : some w.heap.size = some b := hbk
    injection hbk' with e1
    subst e1
    exact ⟨by rw [hs1]; omega, .inr (Nat.le_refl _)⟩
theorem ef_storeX {t : TypeId} {s : Tmp} {y : Operand} {j m : Nat} {T : TypeId} {ps qs : List Pr} (hg : o.guard = none) (hd : o.dst = none) (ho : o.op = .store t (.tmp s) y) (hx : E.lookup s = some (Cp.ex fun b => ptr b 0)) (hy : VL E y (cellsP qs))
    (hz : sizeB P t = some m) (hm : qs.length = m) (hl : ps.length = m) : OpEf P M0 w0 S n j ⟨s, ptrRes T ps⟩ ⟨s, ptrRes T qs⟩ o E any := by
  refine ⟨hg, fun M w a rs hsz he hI hj => ?_⟩
  have hxv : VL E (.tmp s) (Cp.ex fun b => ptr b 0) := ⟨_, hx, Pr.le_refl _⟩
  obtain ⟨b, h1'⟩ := hxv.ev he (show (Operand.tmp s) ∈ o.op.operands.toList by simp [ho, Op.operands])
  have h1 : a.eval (.tmp s) = .pointer (some ⟨b, 0, none⟩) := h1'
  have h1t : a.tmps.getD s undef = .pointer (some ⟨b, 0, none⟩) := h1
  have hj' : rs[j]? = some (cellsRes true b T ps) := by
    rw [hj]; show some (ptrRes T ps (a.tmps.getD s undef)) = _; rw [h1t]; rfl
  obtain ⟨h2, h3⟩ := hy.ev he (show y ∈ o.op.operands.toList by simp [ho, Op.operands])
  obtain ⟨⟨_, cs, h4, h5, h6⟩, _⟩ := hI.hold _ (List.mem_of_getElem? hj')
  have h5l := h5.length
  have h2l := h2.length
  have hcells : (a.eval y).cells.size = m := by rw [← hm, ← h2l]; simp
  have hrun : (storeCells ⟨b, 0, none⟩ (a.eval y).cells.toList 0).run P w = .ok () (w.setRow b (cs.take 0 ++ (a.eval y).cells.toList ++ cs.drop (0 + m)).toArray) := by
    have := run_storeCells_at (P := P) b 0 T (a.eval y).cells.toList 0 cs.toArray w h4 (by simp; omega) h3
    simpa [hcells] using this
  have hdrop : cs.drop (0 + m) = [] := List.drop_eq_nil_of_le (by omega)
  rw [hdrop, List.take_zero, List.nil_append, List.append_nil] at hrun
  have hrun2 : (execOp a.eval o).run P w = .ok .skip (w.setRow b (a.eval y).cells.toList.toArray) := by
    simp only [execOp, ho, h1, Instr.storeAt, Instr.sureAddr, storeVar]
    simp [run_size hz, hcells, hrun]
  rw [hrun2]
  obtain ⟨h7, h8⟩ := HpH.write (qs := qs) (cs := (a.eval y).cells.toList) hI hj' h2 h3
  refine ⟨M, trivial, h8, ?_⟩
  have hat : (SR.at_ (a.put o.dst undef) ⟨s, ptrRes T qs⟩) = cellsRes true b T qs := by
    rw [hd]; show ptrRes T qs (a.tmps.getD s undef) = _; rw [h1t]; rfl
  rw [hat]; exact h7
theorem Fin.opn {Q : Exit → Act → World → Prop} {x : Exit} (s j : Nat) {v : Value} {f : Value → Res} (g : Nat → Res) (hs : E.lookup s = some (andIs v (Cp.ex fun b => ptr b 0))) (hi : rs[j]? = some (f v)) (hf : ∀ b, f (.pointer (some ⟨b, 0, none⟩)) = g b)
    (k : ∀ b, Fin n ((s, ptr b 0) :: E) (Hp M0 w0 S (rs.set j (g b))) Q x) : Fin n E (Hp M0 w0 S rs) Q x := by
  intro a w hst
  obtain ⟨M, h1, h2, he, h4⟩ := hst
  obtain ⟨h5, b, h6⟩ := he s _ hs
  have hv : v = .pointer (some ⟨b, 0, none⟩) := by rw [← h5]; exact h6
  have hj : rs.set j (g b) = rs := by
    have hjl : j < rs.length := by rcases Nat.lt_or_ge j rs.length with h | h; exact h; rw [List.getElem?_eq_none h] at hi; cases hi
    rw [← hf b, ← hv]
    rw [List.getElem?_eq_getElem hjl] at hi
    simp at hi
    rw [← hi, List.set_getElem_self]
  refine k b a w ⟨M, h1, h2, ?_, by rw [hj]; exact h4⟩
  intro t q hq
  simp only [List.lookup] at hq
  by_cases ht : t = s
  · subst ht; simp at hq; subst hq; exact h6
  · rw [show (t == s) = false by simpa using ht] at hq; exact he t q hq
end
end Cp
namespace Cp
open Go Go.RowKit Go.Great

section
variable {P : Program} {n : Nat} {E : Env} {M0 : Av} {w0 : World} {S : Nat → Prop} {rs : List Res} {o : Oper}

/-- A slice of ours: nil, or its elements and what lies behind them. -/
def ownRes (e : TypeId) (sz : Nat) (rows : List (List Pr)) (v : Value) : Res where
  blk := match v with | .slice (some a) _ _ => some a.block | _ => none
  new := true
  h M w := (rows = [] ∧ v = .slice none 0 0) ∨ (mutRes e sz rows v).h M w
  st M w M' w' he hk h := h.imp id fun h => (mutRes e sz rows v).st M w M' w' he hk h
theorem app_mut {M : Av} {w : World} {t ty e : TypeId} {sz bytes : Nat} {zs : List Value} {rows rows' : List (List Pr)} {v u : Value} {j : Nat} (ht : P.underlying t = some (.slice e)) (hz : sizeB P e = some sz) (hby : bytesB P e = some bytes) (hze : zeroB P e = some zs) (hzl : zs.length = sz) (hone : zs.all (·.oneCell') = true) (hsz : 0 < sz)
    (h : HpH M0 w0 S rs M w) (hj : rs[j]? = some (ownRes e sz rows v)) (hl : ∀ r ∈ rows, r.length = sz) (hu : (slice sz rows').h M w u) (hpos : 0 < rows'.length) (hmax : rows.length + rows'.length ≤ maxLen) (hfit : (rows.length + rows'.length) * bytes ≤ 140737488355328) :
    ∃ v' w' M', (Builtin.append_ #[t, t] ty #[v, u]).run P w = .ok v' w' ∧ (lens (rows.length + rows'.length)).h M' w' v' ∧ Ext M w M' w' ∧ HpH M0 w0 S (rs.set j (ownRes e sz (rows ++ rows') v')) M' w' := by
  have hjl : j < rs.length := by rcases Nat.lt_or_ge j rs.length with h | h; exact h; rw [List.getElem?_eq_none h] at hj; cases hj
  rcases (h.hold _ (List.mem_of_getElem? hj)).1 with ⟨rfl, rfl⟩ | hmut
  · have h1 := h.swap1 (r' := noRes) hj rfl rfl trivial
    have hj1 : (rs.set j noRes)[j]? = some noRes := List.getElem?_set_self hjl
    obtain ⟨v', w', M', hrun, h2, h3, h4⟩ := app_new (ty := ty) ht hz hby hze hzl hone hsz h1 hj1 hu hpos (by simpa using hmax) (by simpa using hfit)
    rw [List.set_set] at h4
    have h5 := h4.swap1 (r' := ownRes e sz ([] ++ rows') v') (List.getElem?_set_self hjl) rfl rfl (.inr (h4.hold _ (List.mem_of_getElem? (List.getElem?_set_self hjl))).1)
    rw [List.set_set] at h5
    exact ⟨v', w', M', hrun, by simpa using h2, h3, h5⟩
  · obtain ⟨b, cap, spare, rfl, hnc, hcm, hsp, hcr⟩ := hmut
    have hC := h.swap1 (r' := cellsRes true b e (rows.flatten ++ spare.map is)) hj rfl rfl hcr
    have hjC : (rs.set j (cellsRes true b e (rows.flatten ++ spare.map is)))[j]? = some (cellsRes true b e (rows.flatten ++ spare.map is)) := List.getElem?_set_self hjl
    obtain ⟨⟨hMb, cs, hheap, hcs, hone'⟩, hbb⟩ := hC.hold _ (List.mem_of_getElem? hjC)
    have hfl := flat_len hl
    have hcl := hcs.length
    rw [List.length_append, hfl, List.length_map, hsp, ← Nat.add_mul, show rows.length + (cap - rows.length) = cap by omega] at hcl
    unfold sizeB at hz
    unfold bytesB at hby
    unfold zeroB at hze
    cases hi : P.info? e with
    | none => rw [hi] at hz; cases hz
    | some i =>
      rw [hi] at hz hby hze
      simp only [Option.map_some, Option.some.injEq, Option.map_eq_some_iff] at hz hby hze
      obtain ⟨z, hzz, hze⟩ := hze
      have hzc : z.cells.size = sz := by rw [← hzl, ← hze]; simp
      obtain ⟨A', c', rfl, hmc, hcm', hA', hrows'⟩ := hu
      have hu0 : (slice sz rows').h M w (.slice A' rows'.length c') := ⟨A', c', rfl, hmc, hcm', hA', hrows'⟩
      obtain ⟨ad', rfl⟩ : ∃ ad', A' = some ad' := by
        obtain ⟨_, b, hb, _⟩ := hrows' 0 _ (List.getElem?_eq_getElem hpos)
        exact ⟨b, hb⟩
      obtain ⟨news, hflat, hcell⟩ := slice_flat hsz hu0
      have hnl := hflat.1
      have hnews := hflat.hl hsz
      have hT : HL M w rows.flatten (cs.take (rows.length * sz)) := by
        have := hcs.take (rows.length * sz)
        rwa [← hfl, List.take_left, hfl] at this
      have hne : (.slice (some ⟨b, 0, none⟩) (rows ++ rows').length cap : Value) = .slice (some ⟨b, 0, none⟩) (rows.length + rows'.length) cap := by rw [List.length_append]
      by_cases hroom : rows.length + rows'.length ≤ cap
      · have hle : (rows.length + rows'.length) * sz ≤ cap * sz := Nat.mul_le_mul_right sz hroom
        rw [Nat.add_mul] at hle
        have hrun := run_append_room (P := P) (w := w) t ty e i ht hi b rows.length cap cs.toArray hheap ad' rows'.length c' news (by rw [hz]; exact hnl) (fun k u hk => (hcell k u hk).1) hflat.2.1 hroom (by rw [hz, hnl]; simp; omega)
        rw [hz, hnl] at hrun
        have hD : HL M w ((spare.drop (rows'.length * sz)).map is) (cs.drop (rows.length * sz + rows'.length * sz)) := by
          have := hcs.drop (rows.length * sz + rows'.length * sz)
          have e1 : (rows.flatten ++ spare.map is).drop (rows.length * sz + rows'.length * sz) = (spare.drop (rows'.length * sz)).map is := by rw [← hfl, ← List.drop_drop, List.drop_left, List.map_drop]
          rwa [e1] at this
        obtain ⟨hW, hX⟩ := HpH.write (qs := rows.flatten ++ rows'.flatten ++ (spare.drop (rows'.length * sz)).map is) (cs := cs.take (rows.length * sz) ++ news ++ cs.drop (rows.length * sz + rows'.length * sz)) hC hjC ((hT.app hnews).app hD) (fun c hc => by
          simp only [List.mem_append] at hc
          rcases hc with (hc | hc) | hc
          · exact hone' c (List.mem_of_mem_take hc)
          · exact hflat.2.1 c hc
          · exact hone' c (List.mem_of_mem_drop hc))
        rw [List.set_set] at hW
        refine ⟨_, _, M, hrun, ⟨_, _, rfl⟩, hX, ?_⟩
        have hW2 := hW.swap1 (r' := ownRes e sz (rows ++ rows') (.slice (some ⟨b, 0, none⟩) (rows.length + rows'.length) cap)) (List.getElem?_set_self hjl) rfl rfl (.inr ⟨b, cap, spare.drop (rows'.length * sz), hne.symm, by rw [List.length_append]; exact hroom, hcm, by
          rw [List.length_drop, hsp, List.length_append, ← Nat.sub_mul]; congr 1; omega, by
          rw [List.flatten_append]; exact (hW.hold _ (List.mem_of_getElem? (List.getElem?_set_self hjl))).1⟩)
        rw [List.set_set] at hW2
        exact hW2
      · have hg : cap < rows.length + rows'.length := by omega
        have holds : ∀ k u, (cs.take (rows.length * sz))[k]? = some u → w.cell? ((⟨b, 0, none⟩ : Addr).add k) = some u := by
          intro k u hk
          have hk2 : cs[k]? = some u := by
            rw [List.getElem?_take] at hk
            split at hk
            · exact hk
            · cases hk
          rw [addr_add]
          simp [World.cell?, hheap, hk2]
        have hto : (cs.take (rows.length * sz)).length = rows.length * sz := by rw [List.length_take, hcl]; exact Nat.min_eq_left (Nat.mul_le_mul_right sz hnc)
        have hrun := run_append_grow (P := P) (w := w) t ty e i z ht hi hzz ⟨b, 0, none⟩ rows.length cap (cs.take (rows.length * sz)) (by rw [hz]; exact hto) holds ad' rows'.length c' news (by rw [hz]; exact hnl) (fun k u hk => (hcell k u hk).1) hg (by unfold maxLen at hmax; omega) (by rw [hby]; exact growslice_fits hg hfit)
        generalize hcap : grownCap w (rows.length + rows'.length) cap e = cap' at hrun
        have hge : rows.length + rows'.length ≤ cap' := by rw [← hcap]; exact grownCap_ge _ _ _ _
        have hle : cap' ≤ maxLen := by rw [← hcap]; exact grownCap_le_maxLen _ _ _ _ hmax
        generalize hzc' : Builtin.zeroCells z.cells (cap' - (rows.length + rows'.length)) = zc at hrun
        have hzs : zc.size = (cap' - (rows.length + rows'.length)) * sz := by rw [← hzc', size_zeroCells, hzc]
        have hzo : ∀ c ∈ zc.toList, c.oneCell' = true := by rw [← hzc']; exact zeroCells_one hze hone
        generalize holdsN : ((cs.take (rows.length * sz)).toArray ++ news.toArray ++ zc) = arr at hrun
        have harr : arr.toList = cs.take (rows.length * sz) ++ news ++ zc.toList := by rw [← holdsN]; simp
        have hb : Below w.heap.size w (w.drew.alloc (.cells arr e)) := ((Below.refl _ _).drew).alloc (Nat.le_refl _) _
        have h2 := Ext.below (M := M) hb
        have hext : Ext M w (fun b o => M b o ∨ b = w.heap.size) (w.drew.alloc (.cells arr e)) := by
          refine ⟨h2.size, fun a v hc hm => ⟨fun hx => ?_, (h2.keep a v hc hm).2⟩, fun b o ho hp hm => ⟨fun hx => ?_, (h2.obj b o ho hp hm).2⟩⟩
          · rcases hx with hx | hx
            · exact hm hx
            · have := cell_lt hc; omega
          · rcases hx with hx | hx
            · exact hm hx
            · subst hx; simp at ho
        have hs1 : (w.drew.alloc (.cells arr e)).heap.size = w.heap.size + 1 := by simp
        refine ⟨_, _, fun b o => M b o ∨ b = w.heap.size, hrun, ⟨_, _, rfl⟩, hext, ?_⟩
        refine h.replace hj hext hb.os hb.tape hb.output (fun k hk _ => hb.block k hk) rfl (fun b o hm _ => .inl hm) (fun b o hx => ?_) ?_ rfl (fun b hbk => ?_)
        · rcases hx with hx | hx
          · have := h.bd _ _ hx; omega
          · omega
        · refine .inr ⟨w.heap.size, cap', zc.toList, by rw [List.length_append], by rw [List.length_append]; exact hge, hle, by rw [List.length_append]; simpa using hzs, fun o => .inr rfl, arr.toList, ?_, ?_, ?_⟩
          · have hh : (w.drew.alloc (.cells arr e)).heap[w.heap.size]? = some (.cells arr e (0, 0)) := heap_alloc_new w.drew _
            rw [hh]
          · rw [harr, List.flatten_append]; exact ((hT.st hext).app ((hflat.st hext).hl hsz)).app (hl_is _ _ _)
          · intro c hc
            rw [harr] at hc
            simp only [List.mem_append] at hc
            rcases hc with (hc | hc) | hc
            · exact hone' c (List.mem_of_mem_take hc)
            · exact hflat.2.1 c hc
            · exact hzo c hc
        · have hbk' : some w.heap.size = some b := hbk
          injection hbk' with e1
          subst e1
          exact ⟨by rw [hs1]; omega, .inr (Nat.le_refl _)⟩
theorem ef_appmut {t e : TypeId} {x y : Operand} {sz bytes d : Nat} {zs : List Value} {rows rows' : List (List Pr)} {v : Value} {p : Pr} {j : Nat} (hg : o.guard = none) (hd : o.dst = some d) (hn : d < n) (ho : o.op = .call { callee := .builtin .append, args := #[x, y], argTypes := #[t, t] })
    (ht : P.underlying t = some (.slice e)) (hz : sizeB P e = some sz) (hby : bytesB P e = some bytes) (hze : zeroB P e = some zs) (hzl : zs.length = sz) (hone : zs.all (·.oneCell') = true) (hsz : 0 < sz)
    (hx : VL E x (andIs v p)) (hy : VL E y (slice sz rows')) (hl : ∀ r ∈ rows, r.length = sz) (hpos : 0 < rows'.length) (hmax : rows.length + rows'.length ≤ maxLen) (hfit : (rows.length + rows'.length) * bytes ≤ 140737488355328) : OpEf P M0 w0 S n j (SR.c (ownRes e sz rows v)) ⟨d, ownRes e sz (rows ++ rows')⟩ o E (lens (rows.length + rows'.length)) := by
  refine ⟨hg, fun M w a rs hszn he hI hj => ?_⟩
  have h1 : a.eval x = v := (hx.ev he (by simp [ho, Op.operands, Call.operands])).1
  have h2 := hy.ev he (by simp [ho, Op.operands, Call.operands])
  obtain ⟨v', w', M', hrun, h3, h4, h5⟩ := app_mut (ty := o.type) ht hz hby hze hzl hone hsz hI hj hl h2 hpos hmax hfit
  have hrun2 : (execOp a.eval o).run P w = .ok (.value v') w' := by simp [execOp, ho, resolve, invoke, builtin, h1, hrun]
  rw [hrun2]
  refine ⟨M', h3, h4, ?_⟩
  have : (SR.at_ (a.put o.dst v') ⟨d, ownRes e sz (rows ++ rows')⟩) = ownRes e sz (rows ++ rows') v' := by unfold SR.at_ Slot.val; dsimp only; rw [hd, put_same (by rw [hszn]; exact hn)]
  rw [this]; exact h5

theorem HpH.frzO {M : Av} {w : World} {sz : Nat} {e : TypeId} {rows : List (List Pr)} {v : Value} {j : Nat} (h : HpH M0 w0 S rs M w) (hj : rs[j]? = some (ownRes e sz rows v)) (hl : ∀ r ∈ rows, r.length = sz) :
    ∃ M', Ext M w M' w ∧ HpH M0 w0 S (rs.set j (appRes e sz v)) M' w ∧ (slice sz rows).h M' w v := by
  have hjl : j < rs.length := by rcases Nat.lt_or_ge j rs.length with h | h; exact h; rw [List.getElem?_eq_none h] at hj; cases hj
  rcases (h.hold _ (List.mem_of_getElem? hj)).1 with ⟨rfl, rfl⟩ | hmut
  · exact ⟨M, Ext.refl _ _, h.swap1 hj rfl rfl (by intro a n c hv; cases hv), nil_slice sz M w _ rfl⟩
  · obtain ⟨b, cap, spare, rfl, hnc, hcm, hsp, hcr⟩ := hmut
    have hC := h.swap1 (r' := cellsRes true b e (rows.flatten ++ spare.map is)) hj rfl rfl hcr
    obtain ⟨M', h1, h2, h3⟩ := HpH.frz hC (List.getElem?_set_self hjl) hl hnc hcm (by rw [List.length_map]; exact hsp)
    rw [List.set_set] at h2
    exact ⟨M', h1, h2, h3⟩

end

section
variable {P : Program} {n : Nat} {E : Env} {M0 : Av} {w0 : World} {S : Nat → Prop} {rs : List Res} {o : Oper} {ops : Array Oper} {r : List Oper}
def FunR (P : Program) (f : FuncId) (args : List Pr) (res : Pr) (r : Res) (r' : Res) (r2 : Res) : Prop := Entry P f ∧ ∀ M0 w0 S rs M w vs, HpH M0 w0 S (r :: r2 :: rs) M w → HL M w args vs →
  Calls P f vs.toArray w fun e w' => ∃ v M', e = .returned v ∧ res.h M' w' v ∧ Ext M w M' w' ∧ HpH M0 w0 S (r' :: r2 :: rs) M' w'
theorem FunR.of {f : FuncId} {g : Func} {c : Code} {ps : List Pr} {res : Pr} {R R' R2 : Res} (hf : P.funcs[f]? = some g) (hb : g.body = some c) (hname : (g.name == "runtime.NumGoroutine") = false) (hlen : ps.length ≤ g.ntmps)
    (h : ∀ M0 w0 S rs M1 w1, Tr P g.ntmps (penv 0 ps) (Hp M0 w0 S (R :: extRes M1 w1 :: R2 :: rs)) c (bodyPost P g (BackM M0 w0 S (R2 :: rs) M1 w1 res (fun _ => R')))) : FunR P f ps res R R' R2 := by
  refine ⟨⟨g, hf, hname, by rw [hb]; rfl⟩, fun M0 w0 S rs M w vs hI hv => ?_⟩
  refine calls_of_wp hf hb (h M0 w0 S rs M w _ _ ⟨M, ?_, rfl, enter_env hv, ?_⟩)
  · have := hv.length
    simp [this]; omega
  · exact HpH.perm (List.Perm.swap _ _ _) (HpH.add0 hI (r := extRes M w) rfl (Ext.refl _ _))
end
end Cp
namespace Cp
open Go Go.RowKit Go.Great

abbrev anyK (k : IntKind) : Pr := Cp.ex fun i : Int => is (.int k i)
theorem is_anyK (k : IntKind) (i : Int) : Pr.le (is (.int k i)) (anyK k) := fun _ _ _ h => ⟨i, h⟩
section
variable {P : Program} {I : Asn} {o : Oper} {E : Env}
theorem ok_bits {op : BinOp} {t u : TypeId} {x y : Operand} {k : IntKind} (hop : (op == .xor || op == .or) = true) (ho : o.op = .binOp op t x y u) (hx : VL E x (anyK k)) (hy : VL E y (anyK k)) : OpOK P I o E (anyK k) :=
  OpOK.same fun M w a he _ => by
    obtain ⟨m, h1⟩ := hx.ev he (by simp [ho, Op.operands])
    obtain ⟨n, h2⟩ := hy.ev he (by simp [ho, Op.operands])
    have h1 : a.eval x = .int k m := h1
    have h2 : a.eval y = .int k n := h2
    cases op <;> simp at hop <;> exact ⟨_, by simp [execOp, ho, h1, h2, eqGuard, binOp, Op.intBits]; rfl, _, rfl⟩
theorem ok_addK {t u : TypeId} {x y : Operand} {k : IntKind} (ho : o.op = .binOp .add t x y u) (hx : VL E x (anyK k)) (hy : VL E y (anyK k)) : OpOK P I o E (anyK k) :=
  OpOK.same fun M w a he _ => by
    obtain ⟨m, h1⟩ := hx.ev he (by simp [ho, Op.operands])
    obtain ⟨n, h2⟩ := hy.ev he (by simp [ho, Op.operands])
    have h1 : a.eval x = .int k m := h1
    have h2 : a.eval y = .int k n := h2
    exact ⟨_, by simp [execOp, ho, h1, h2, eqGuard, binOp, Op.intArith]; rfl, _, rfl⟩
end
end Cp
