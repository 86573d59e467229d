/-
  Control and functions.
-/
import Derived.Test.YthmnoekgicggnaaGreatCoreB
namespace Cp
open Go Go.RowKit

section
variable {P : Program} {n : Nat} {E : Env} {I : Asn} {Q : Exit → Act → World → Prop}

/-- The state serves the post at this exit. -/
def Fin (n : Nat) (E : Env) (I : Asn) (Q : Exit → Act → World → Prop) (e : Exit) : Prop := ∀ a w, St n E I a w → Q e a w

theorem Tr.seq {x y : Code} (h : Tr P n E I x (Exit.then (y.wp P Q) Q)) : Tr P n E I (.seq x y) Q := fun a w hs => wp_seq (h a w hs)
theorem Tr.reg0 {id : Nat} {l : List Oper} (h : Ch P n I l.toArray l E (fun E' => Fin n E' I Q .normal)) : Tr P n E I (.region id l.toArray false) Q := Tr.region0 h
theorem Tr.reg1 (hm : P.follows .mixedOrders = true) {id : Nat} {l : List Oper} (hB : drawOk l = true) (h : Ch P n I l.toArray l E (fun E' => Fin n E' I Q .normal)) : Tr P n E I (.region id l.toArray true) Q := Tr.region1 hm hB h
theorem Fin.go {y : Code} (h : Tr P n E I y Q) : Fin n E I (Exit.then (y.wp P Q) Q) .normal := h
theorem Fin.then_ret {K : Act → World → Prop} (h : Fin n E I Q .ret) : Fin n E I (Exit.then K Q) .ret := h
theorem Fin.then_exit {K : Act → World → Prop} {id : Nat} (h : Fin n E I Q (.exit id)) : Fin n E I (Exit.then K Q) (.exit id) := h
theorem Fin.block {id : Nat} (h : Fin n E I Q .normal) : Fin n E I (Exit.inBlock id Q) .normal := h
theorem Fin.block_ret {id : Nat} (h : Fin n E I Q .ret) : Fin n E I (Exit.inBlock id Q) .ret := h
theorem Fin.block_here {id : Nat} (h : Fin n E I Q .normal) : Fin n E I (Exit.inBlock id Q) (.exit id) := fun a w hs => by
  show (if id = id then Q .normal a w else Q (.exit id) a w)
  rw [if_pos rfl]; exact h a w hs
theorem Fin.block_on {id id' : Nat} (hne : Nat.beq id' id = false) (h : Fin n E I Q (.exit id')) : Fin n E I (Exit.inBlock id Q) (.exit id') := fun a w hs => by
  show (if id' = id then Q .normal a w else Q (.exit id') a w)
  rw [if_neg (Nat.ne_of_beq_eq_false hne)]; exact h a w hs
theorem Tr.skip (h : Fin n E I Q .normal) : Tr P n E I .skip Q := fun a w hs => wp_skip (h a w hs)
theorem Tr.ret (h : Fin n E I Q .ret) : Tr P n E I .ret Q := fun a w hs => wp_ret (h a w hs)
theorem Tr.exit {id : Nat} (h : Fin n E I Q (.exit id)) : Tr P n E I (.exit id) Q := fun a w hs => wp_exit (h a w hs)
theorem Tr.block {id : Nat} {c : Code} (h : Tr P n E I c (Exit.inBlock id Q)) : Tr P n E I (.block id c) Q := fun a w hs => wp_block (h a w hs)
theorem Tr.cond {c : Operand} {x y : Code} {b : Bool} (hc : Val E c = some (bool b)) (ht : b = true → Tr P n E I x Q) (hf : b = false → Tr P n E I y Q) : Tr P n E I (.cond c x y) Q := by
  intro a w hs
  obtain ⟨M, h1, h2, h3, h4⟩ := hs
  have hv : a.eval c = .bool b := Val.eval h3 hc
  exact wp_cond_split hv (fun h => ht h a w ⟨M, h1, h2, h3, h4⟩) (fun h => hf h a w ⟨M, h1, h2, h3, h4⟩)

/-- E says at least what the second says. -/
def SubL (E : Env) : Env → Prop
  | [] => True
  | (s, p) :: r => (∃ q, E.lookup s = some q ∧ Pr.le q p) ∧ SubL E r
theorem SubL.spec : ∀ {E1 : Env}, SubL E E1 → ∀ s p, E1.lookup s = some p → ∃ q, E.lookup s = some q ∧ Pr.le q p
  | [], _, s, p, h => by simp at h
  | (t, q) :: r, hh, s, p, h => by
    simp only [List.lookup] at h
    by_cases hs : s = t
    · subst hs
      simp only [beq_self_eq_true, Option.some.injEq] at h
      subst h; exact hh.1
    · rw [show (s == t) = false by simpa using hs] at h
      exact SubL.spec hh.2 s p h
theorem St.sub {E1 : Env} {I1 : Asn} (hs : SubL E E1) (hI : ∀ M w, I.h M w → I1.h M w) {a : Act} {w : World} (h : St n E I a w) : St n E1 I1 a w := by
  obtain ⟨M, h1, h2, h3, h4⟩ := h
  refine ⟨M, h1, h2, fun s p hp => ?_, hI M w h4⟩
  obtain ⟨q, hq, hl⟩ := hs.spec s p hp
  exact hl _ _ _ (h3 s q hq)
theorem Tr.weak (E1 : Env) {c : Code} (hs : SubL E E1) (h : Tr P n E1 I c Q) : Tr P n E I c Q := fun a w hw => h a w (hw.sub hs fun _ _ h => h)
theorem Fin.weak (E1 : Env) {e : Exit} (hs : SubL E E1) (h : Fin n E1 I Q e) : Fin n E I Q e := fun a w hw => h a w (hw.sub hs fun _ _ h => h)

/-- A state in the middle: a family, with facts. -/
theorem Tr.cut {α : Type} (E1 : α → Env) (I1 : α → Asn) (C : α → Prop) {x y : Code} (h : Tr P n E I x (Exit.then (fun a w => ∃ i, C i ∧ St n (E1 i) (I1 i) a w) Q))
    (k : ∀ i, C i → Tr P n (E1 i) (I1 i) y Q) : Tr P n E I (.seq x y) Q := by
  intro a w hs
  refine wp_seq (Code.wp_mono ?_ (h a w hs))
  intro e a' w' hq
  cases e with
  | normal => obtain ⟨i, hi, hst⟩ := hq; exact k i hi a' w' hst
  | _ => exact hq
/-- The same, one state, one fact. -/
theorem Tr.cut1 (E1 : Env) (φ : Prop) {x y : Code} (h : Tr P n E I x (Exit.then (fun a w => ∃ _ : Unit, φ ∧ St n E1 I a w) Q)) (k : φ → Tr P n E1 I y Q) : Tr P n E I (.seq x y) Q :=
  Tr.cut (fun _ : Unit => E1) (fun _ => I) (fun _ => φ) h (fun _ => k)
theorem Fin.fam {α : Type} {E1 : α → Env} {I1 : α → Asn} {C : α → Prop} (i : α) (hC : C i) (hs : SubL E (E1 i)) (hI : ∀ M w, I.h M w → (I1 i).h M w) :
    Fin n E I (Exit.then (fun a w => ∃ i, C i ∧ St n (E1 i) (I1 i) a w) Q) .normal := fun _ _ hst => ⟨i, hC, hst.sub hs hI⟩
theorem Fin.fam_same {α : Type} {E1 : α → Env} {C : α → Prop} (i : α) (hC : C i) (hs : SubL E (E1 i)) :
    Fin n E I (Exit.then (fun a w => ∃ i, C i ∧ St n (E1 i) I a w) Q) .normal := fun _ _ hst => ⟨i, hC, hst.sub hs fun _ _ h => h⟩

theorem Tr.loop {α : Type} (Ei : α → Env) (Ii : α → Asn) (C : α → Prop) (μ : α → Nat) {c : Code} (x0 : α) (h0 : C x0) (hs : SubL E (Ei x0)) (hI : ∀ M w, I.h M w → (Ii x0).h M w)
    (round : ∀ x, C x → Tr P n (Ei x) (Ii x) c (Exit.then (fun a w => ∃ y, (C y ∧ μ y < μ x) ∧ St n (Ei y) (Ii y) a w) Q)) : Tr P n E I (.loop c) Q := by
  intro a w hst b k cs
  have key : ∀ m x a w, μ x = m → C x → St n (Ei x) (Ii x) a w →
      ∃ e a' w', Q e a' w' ∧ Arrives P (lone (b.at a (.code c :: .inLoop c :: k)) cs w) b k cs e a' w' := by
    intro m
    induction m using Nat.strongRecOn with
    | _ m ih =>
      intro x a w hm hC hx
      obtain ⟨e, a₁, w₁, hq, harr⟩ := round x hC a w hx b (.inLoop c :: k) cs
      cases e with
      | normal =>
        obtain ⟨y, ⟨hCy, hlt⟩, hy⟩ := hq
        obtain ⟨e₂, a₂, w₂, hq₂, harr₂⟩ := ih (μ y) (hm ▸ hlt) y a₁ w₁ rfl hCy hy
        exact ⟨e₂, a₂, w₂, hq₂, .of_steps (Steps.trans harr (.one step_inLoop)) harr₂⟩
      | exit id => exact ⟨_, a₁, w₁, hq, .pass (x := .inLoop c) rfl (fun _ _ => .inl (by simp)) harr⟩
      | goto l => exact ⟨_, a₁, w₁, hq, .pass (x := .inLoop c) rfl (fun _ _ => .inl (by simp)) harr⟩
      | ret => exact ⟨_, a₁, w₁, hq, .pass (x := .inLoop c) rfl (fun _ _ => .inl (by simp)) harr⟩
      | panic ch => exact ⟨_, a₁, w₁, hq, .pass (x := .inLoop c) rfl (fun _ _ => .inl (by simp)) harr⟩
      | outgrown => exact ⟨_, a₁, w₁, hq, .pass (x := .inLoop c) rfl (fun _ _ => .inl (by simp)) harr⟩
  obtain ⟨e, a', w', hq, harr⟩ := key _ x0 a w rfl h0 (hst.sub hs hI)
  exact ⟨e, a', w', hq, .of_steps (.one step_loop) harr⟩
/-- A loop whose memory facts stay. -/
theorem Tr.loop1 {α : Type} (Ei : α → Env) (C : α → Prop) (μ : α → Nat) {c : Code} (x0 : α) (h0 : C x0) (hs : SubL E (Ei x0))
    (round : ∀ x, C x → Tr P n (Ei x) I c (Exit.then (fun a w => ∃ y, (C y ∧ μ y < μ x) ∧ St n (Ei y) I a w) Q)) : Tr P n E I (.loop c) Q :=
  Tr.loop Ei (fun _ => I) C μ x0 h0 hs (fun _ _ h => h) round

/-! ### Functions -/

/-- Memory that is ours to turn: a block, and what is known of it. -/
structure Res where
  blk : Option Nat
  new : Bool
  h : Av → World → Prop
  st : ∀ M w M' w', Ext M w M' w' → (∀ b, blk = some b → w'.heap[b]? = w.heap[b]? ∧ ∀ o, M b o → M' b o) → h M w → h M' w'

/-- The function began in (M0, w0); of what was there only the blocks S may have turned; these resources are held. -/
structure HpH (M0 : Av) (w0 : World) (S : Nat → Prop) (rs : List Res) (M : Av) (w : World) : Prop where
  m0 : Bd M0 w0
  m : ∀ b o, M0 b o → M b o
  os : w.os = w0.os
  tape : w.tape = w0.tape
  output : w.output = w0.output
  size : w0.heap.size ≤ w.heap.size
  block : ∀ k, k < w0.heap.size → ¬ S k → w.heap[k]? = w0.heap[k]?
  bd : Bd M w
  hold : ∀ r ∈ rs, r.h M w ∧ ∀ b, r.blk = some b → b < w.heap.size ∧ (if r.new then w0.heap.size ≤ b else S b)
  nd : List.Pairwise (fun r r' : Res => ∀ b, r.blk = some b → r'.blk ≠ some b) rs

def Hp (M0 : Av) (w0 : World) (S : Nat → Prop) (rs : List Res) : Asn where
  h := HpH M0 w0 S rs
  st M w w' hb h := ⟨h.m0, h.m, hb.os.trans h.os, hb.tape.trans h.tape, hb.output.trans h.output, Nat.le_trans h.size hb.size,
    fun k hk hs => (hb.block k (Nat.lt_of_lt_of_le hk h.size)).trans (h.block k hk hs), fun b o hm => Nat.lt_of_lt_of_le (h.bd b o hm) hb.size,
    fun r hr => by
      obtain ⟨h1, h2⟩ := h.hold r hr
      exact ⟨r.st _ _ _ _ (Ext.below hb) (fun b hbk => ⟨hb.block b (h2 b hbk).1, fun _ x => x⟩) h1, fun b hbk => ⟨Nat.lt_of_lt_of_le (h2 b hbk).1 hb.size, (h2 b hbk).2⟩⟩, h.nd⟩
  bd _ _ h := h.bd

abbrev noS : Nat → Prop := fun _ => False
abbrev Bse (M0 : Av) (w0 : World) : Asn := Hp M0 w0 noS []
theorem HpH.begin {M0 : Av} {w0 : World} (h : Bd M0 w0) : HpH M0 w0 noS [] M0 w0 :=
  ⟨h, fun _ _ h => h, rfl, rfl, rfl, Nat.le_refl _, fun _ _ _ => rfl, h, fun _ h => by simp at h, .nil⟩
theorem HpH.below {M0 : Av} {w0 : World} {rs : List Res} {M : Av} {w : World} (h : HpH M0 w0 noS rs M w) : Below w0.heap.size w0 w :=
  ⟨h.os, h.tape, h.output, h.size, fun k hk => h.block k hk (fun h => h)⟩

def Back (M0 : Av) (w0 : World) (res : Pr) (e : Ending) (w' : World) : Prop := ∃ v, e = .returned v ∧ res.h M0 w' v ∧ Below w0.heap.size w0 w'

def penv : Nat → List Pr → Env
  | _, [] => []
  | k, p :: r => (k, p) :: penv (k + 1) r

theorem penv_lookup : ∀ (ps : List Pr) (k s : Nat) (p : Pr), (penv k ps).lookup s = some p → k ≤ s ∧ ps[s - k]? = some p
  | [], k, s, p, h => by simp [penv] at h
  | q :: ps, k, s, p, h => by
    simp only [penv, List.lookup] at h
    by_cases hs : s = k
    · subst hs; simp at h; subst h; simp
    · rw [show (s == k) = false by simpa using hs] at h
      obtain ⟨h1, h2⟩ := penv_lookup ps (k + 1) s p h
      refine ⟨by omega, ?_⟩
      rw [show s - k = (s - (k + 1)) + 1 by omega]; simpa using h2

theorem enter_env {M : Av} {w : World} {ps : List Pr} {vs : List Value} {m : Nat} (h : HL M w ps vs) : EnvOK M w (penv 0 ps) { tmps := vs.toArray ++ Array.replicate m undef, defers := [] } := by
  intro s p hp
  obtain ⟨_, h2⟩ := penv_lookup ps 0 s p hp
  obtain ⟨v, hv, hh⟩ := h.at_ s p (by simpa using h2)
  have hlt : s < vs.length := by rcases Nat.lt_or_ge s vs.length with h1 | h1; exact h1; rw [List.getElem?_eq_none h1] at hv; cases hv
  have : (vs.toArray ++ Array.replicate m undef).getD s undef = v := by
    rw [Array.getD_eq_getD_getElem?, Array.getElem?_append_left (by simpa using hlt)]
    simp [hv]
  rw [this]; exact hh

theorem Fun.of {f : FuncId} {g : Func} {c : Code} {ps : List Pr} {res : Pr} (hf : P.funcs[f]? = some g) (hb : g.body = some c) (hname : (g.name == "runtime.NumGoroutine") = false) (hlen : ps.length ≤ g.ntmps)
    (h : ∀ M0 w0, Tr P g.ntmps (penv 0 ps) (Bse M0 w0) c (bodyPost P g (Back M0 w0 res))) : Fun P f ps res := by
  refine ⟨⟨g, hf, hname, by rw [hb]; rfl⟩, fun M w vs hbd hv => ?_⟩
  refine calls_of_wp hf hb (h M w _ _ ⟨M, ?_, rfl, enter_env hv, HpH.begin hbd⟩)
  have := hv.length
  simp [this]; omega

theorem results_one {g : Func} {t : Tmp} (h : g.results = #[.tmp t]) (tmps : Array Value) (w : World) : (results g tmps).run P w = .ok (tmps.getD t undef) w := by simp [results, h]
theorem results_two {g : Func} {t u : Tmp} (h : g.results = #[.tmp t, .tmp u]) (tmps : Array Value) (w : World) : (results g tmps).run P w = .ok (.tuple #[tmps.getD t undef, tmps.getD u undef]) w := by simp [results, h]
theorem results_three {g : Func} {t u v : Tmp} (h : g.results = #[.tmp t, .tmp u, .tmp v]) (tmps : Array Value) (w : World) : (results g tmps).run P w = .ok (.tuple #[tmps.getD t undef, tmps.getD u undef, tmps.getD v undef]) w := by simp [results, h]
theorem results_four {g : Func} {t u v x : Tmp} (h : g.results = #[.tmp t, .tmp u, .tmp v, .tmp x]) (tmps : Array Value) (w : World) : (results g tmps).run P w = .ok (.tuple #[tmps.getD t undef, tmps.getD u undef, tmps.getD v undef, tmps.getD x undef]) w := by simp [results, h]

def OutW (I : Asn) (M0 : Av) (w0 : World) : Prop := ∀ M w, I.h M w → (∀ b o, M0 b o → M b o) ∧ Below w0.heap.size w0 w
theorem OutW.bse (M0 : Av) (w0 : World) {rs : List Res} : OutW (Hp M0 w0 noS rs) M0 w0 := fun _ _ h => ⟨h.m, h.below⟩

theorem Fin.ret1 {g : Func} {t : Tmp} {M0 : Av} {w0 : World} {p q : Pr} (hr : g.results = #[.tmp t]) (hI : OutW I M0 w0) (h : E.lookup t = some q) (hl : Pr.le q p) :
    Fin n E I (bodyPost P g (Back M0 w0 p)) .ret := by
  rintro a w ⟨M, _, hd, he, hi⟩
  obtain ⟨h1, h2⟩ := hI M w hi
  exact ⟨hd, _, results_one hr _ _, _, rfl, p.st _ _ _ _ _ (Ext.less h1) (hl _ _ _ (he _ _ h)), h2⟩
theorem Fin.ret2 {g : Func} {t u : Tmp} {M0 : Av} {w0 : World} {p q p' q' : Pr} (hr : g.results = #[.tmp t, .tmp u]) (hI : OutW I M0 w0) (h : E.lookup t = some q) (hl : Pr.le q p) (h' : E.lookup u = some q') (hl' : Pr.le q' p') :
    Fin n E I (bodyPost P g (Back M0 w0 (tup [p, p']))) .ret := by
  rintro a w ⟨M, _, hd, he, hi⟩
  obtain ⟨h1, h2⟩ := hI M w hi
  exact ⟨hd, _, results_two hr _ _, _, rfl, ⟨[_, _], rfl, p.st _ _ _ _ _ (Ext.less h1) (hl _ _ _ (he _ _ h)), p'.st _ _ _ _ _ (Ext.less h1) (hl' _ _ _ (he _ _ h')), trivial⟩, h2⟩
theorem Fin.ret3 {g : Func} {t u v : Tmp} {M0 : Av} {w0 : World} {p q p' q' p'' q'' : Pr} (hr : g.results = #[.tmp t, .tmp u, .tmp v]) (hI : OutW I M0 w0) (h : E.lookup t = some q) (hl : Pr.le q p) (h' : E.lookup u = some q') (hl' : Pr.le q' p')
    (h'' : E.lookup v = some q'') (hl'' : Pr.le q'' p'') : Fin n E I (bodyPost P g (Back M0 w0 (tup [p, p', p'']))) .ret := by
  rintro a w ⟨M, _, hd, he, hi⟩
  obtain ⟨h1, h2⟩ := hI M w hi
  exact ⟨hd, _, results_three hr _ _, _, rfl, ⟨[_, _, _], rfl, p.st _ _ _ _ _ (Ext.less h1) (hl _ _ _ (he _ _ h)), p'.st _ _ _ _ _ (Ext.less h1) (hl' _ _ _ (he _ _ h')), p''.st _ _ _ _ _ (Ext.less h1) (hl'' _ _ _ (he _ _ h'')), trivial⟩, h2⟩
theorem Fin.ret4 {g : Func} {t u v x : Tmp} {M0 : Av} {w0 : World} {p q p' q' p'' q'' p3 q3 : Pr} (hr : g.results = #[.tmp t, .tmp u, .tmp v, .tmp x]) (hI : OutW I M0 w0) (h : E.lookup t = some q) (hl : Pr.le q p) (h' : E.lookup u = some q') (hl' : Pr.le q' p')
    (h'' : E.lookup v = some q'') (hl'' : Pr.le q'' p'') (h3 : E.lookup x = some q3) (hl3 : Pr.le q3 p3) : Fin n E I (bodyPost P g (Back M0 w0 (tup [p, p', p'', p3]))) .ret := by
  rintro a w ⟨M, _, hd, he, hi⟩
  obtain ⟨h1, h2⟩ := hI M w hi
  exact ⟨hd, _, results_four hr _ _, _, rfl, ⟨[_, _, _, _], rfl, p.st _ _ _ _ _ (Ext.less h1) (hl _ _ _ (he _ _ h)), p'.st _ _ _ _ _ (Ext.less h1) (hl' _ _ _ (he _ _ h')), p''.st _ _ _ _ _ (Ext.less h1) (hl'' _ _ _ (he _ _ h'')), p3.st _ _ _ _ _ (Ext.less h1) (hl3 _ _ _ (he _ _ h3)), trivial⟩, h2⟩
end
end Cp
