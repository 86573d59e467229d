/-
  A small program logic over heap-free readings: what a slot holds is a predicate that no growth of memory turns.
-/
import Derived.WalkKit
import Derived.WalkSpells
import Derived.WalkLawsBesides
namespace Cp
open Go Go.RowKit

/-- Which cells may turn: block, offset. -/
abbrev Av := Nat → Nat → Prop

def Obj.plain : Obj → Bool
  | .cells .. => false
  | _ => true

/-- From (M, w) to (M', w'): no cell outside M has turned, and none of these is in M'. -/
structure Ext (M : Av) (w : World) (M' : Av) (w' : World) : Prop where
  size : w.heap.size ≤ w'.heap.size
  keep : ∀ (a : Addr) v, w.cell? a = some v → ¬ M a.block a.off → ¬ M' a.block a.off ∧ w'.cell? a = some v
  obj : ∀ b o, w.heap[b]? = some o → Obj.plain o = true → ¬ M b 0 → ¬ M' b 0 ∧ w'.heap[b]? = some o

theorem Ext.refl (M : Av) (w : World) : Ext M w M w := ⟨Nat.le_refl _, fun _ _ h hm => ⟨hm, h⟩, fun _ _ h _ hm => ⟨hm, h⟩⟩
theorem Ext.trans {M M1 M2 : Av} {w w1 w2 : World} (h : Ext M w M1 w1) (k : Ext M1 w1 M2 w2) : Ext M w M2 w2 :=
  ⟨Nat.le_trans h.size k.size, fun a v hc hm => by
    obtain ⟨h1, h2⟩ := h.keep a v hc hm
    exact k.keep a v h2 h1, fun b o ho hp hm => by
    obtain ⟨h1, h2⟩ := h.obj b o ho hp hm
    exact k.obj b o h2 hp h1⟩
theorem cell_lt {w : World} {a : Addr} {v : Value} (h : w.cell? a = some v) : a.block < w.heap.size := by
  unfold World.cell? at h
  rcases Nat.lt_or_ge a.block w.heap.size with h1 | h1
  · exact h1
  · rw [Array.getElem?_eq_none h1] at h; cases h
theorem Ext.below {M : Av} {w w' : World} (h : Below w.heap.size w w') : Ext M w M w' :=
  ⟨h.size, fun a v hc hm => ⟨hm, by rw [World.cell?_of_block (w := w) (h.block a.block (cell_lt hc))]; exact hc⟩, fun b o ho _ hm => ⟨hm, by
    rw [h.block b (by rcases Nat.lt_or_ge b w.heap.size with h1 | h1; exact h1; rw [Array.getElem?_eq_none h1] at ho; cases ho)]; exact ho⟩⟩
theorem Ext.less {M M' : Av} {w : World} (h : ∀ b o, M' b o → M b o) : Ext M w M' w := ⟨Nat.le_refl _, fun _ _ hc hm => ⟨fun h' => hm (h _ _ h'), hc⟩, fun _ _ ho _ hm => ⟨fun h' => hm (h _ _ h'), ho⟩⟩

theorem below_trans {a b c : World} (h : Below a.heap.size a b) (k : Below b.heap.size b c) : Below a.heap.size a c :=
  h.trans (k.mono h.size)

theorem add_block (a : Addr) (n : Nat) : (a.add n).block = a.block := by unfold Addr.add; split <;> rfl
theorem add_off (a : Addr) (n : Nat) : (a.add n).off = a.off + n := by
  unfold Addr.add; split
  · rename_i h; rw [h]; rfl
  · rfl
theorem add_add (a : Addr) (i j : Nat) : (a.add i).add j = a.add (i + j) := by
  unfold Addr.add
  by_cases hi : i = 0 <;> by_cases hj : j = 0 <;> simp [hi, hj, Nat.add_assoc]

/-- What a value reads as; kept by 'Ext'. -/
structure Pr where
  h : Av → World → Value → Prop
  st : ∀ M w M' w' v, Ext M w M' w' → h M w v → h M' w' v

namespace Pr
def le (q p : Pr) : Prop := ∀ M w v, q.h M w v → p.h M w v
theorem le_refl (p : Pr) : le p p := fun _ _ _ h => h
theorem le_trans {p q r : Pr} (h : le p q) (k : le q r) : le p r := fun M w v x => k M w v (h M w v x)
theorem le_of_eq {p q : Pr} (h : p = q) : le p q := h ▸ le_refl p
end Pr

/-- Just this value. -/
def is (u : Value) : Pr := ⟨fun _ _ v => v = u, fun _ _ _ _ _ _ h => h⟩
def any : Pr := ⟨fun _ _ _ => True, fun _ _ _ _ _ _ h => h⟩
abbrev int (n : Int) : Pr := is (.int .i64 n)
abbrev bool (b : Bool) : Pr := is (.bool b)
theorem le_any (p : Pr) : Pr.le p any := fun _ _ _ _ => trivial
theorem int_eq {a b : Int} (h : a = b) : Pr.le (int a) (int b) := Pr.le_of_eq (by rw [h])
theorem bool_eq {a b : Bool} (h : a = b) : Pr.le (bool a) (bool b) := Pr.le_of_eq (by rw [h])

def HL (M : Av) (w : World) : List Pr → List Value → Prop
  | [], [] => True
  | p :: ps, v :: vs => p.h M w v ∧ HL M w ps vs
  | _, _ => False

theorem HL.st {M M' : Av} {w w' : World} (he : Ext M w M' w') : ∀ {ps : List Pr} {vs : List Value}, HL M w ps vs → HL M' w' ps vs
  | [], [], _ => trivial
  | [], _ :: _, h => h.elim
  | _ :: _, [], h => h.elim
  | p :: _, _ :: _, h => ⟨p.st _ _ _ _ _ he h.1, HL.st he h.2⟩
theorem HL.length {M : Av} {w : World} : ∀ {ps : List Pr} {vs : List Value}, HL M w ps vs → vs.length = ps.length
  | [], [], _ => rfl
  | [], _ :: _, h => h.elim
  | _ :: _, [], h => h.elim
  | _ :: _, _ :: _, h => by simp [HL.length h.2]
theorem HL.at_ {M : Av} {w : World} : ∀ {ps : List Pr} {vs : List Value}, HL M w ps vs → ∀ (i : Nat) (p : Pr), ps[i]? = some p → ∃ v, vs[i]? = some v ∧ p.h M w v
  | [], [], _, _, _, hp => by simp at hp
  | [], _ :: _, h, _, _, _ => h.elim
  | _ :: _, [], h, _, _, _ => h.elim
  | _ :: _, _ :: _, h, 0, p, hp => by simp at hp; subst hp; exact ⟨_, rfl, h.1⟩
  | _ :: _, _ :: _, h, i + 1, p, hp => by simpa using HL.at_ h.2 i p (by simpa using hp)
theorem HL.app {M : Av} {w : World} : ∀ {ps qs : List Pr} {vs us : List Value}, HL M w ps vs → HL M w qs us → HL M w (ps ++ qs) (vs ++ us)
  | [], _, [], _, _, k => k
  | [], _, _ :: _, _, h, _ => h.elim
  | _ :: _, _, [], _, h, _ => h.elim
  | _ :: _, _, _ :: _, _, h, k => ⟨h.1, HL.app h.2 k⟩
theorem HL.of_at {M : Av} {w : World} : ∀ {ps : List Pr} {vs : List Value}, vs.length = ps.length → (∀ (i : Nat) (p : Pr) (v : Value), ps[i]? = some p → vs[i]? = some v → p.h M w v) → HL M w ps vs
  | [], [], _, _ => trivial
  | [], _ :: _, h, _ => by simp at h
  | _ :: _, [], h, _ => by simp at h
  | _ :: _, _ :: _, h, k => ⟨k 0 _ _ rfl rfl, HL.of_at (by simpa using h) fun i p v hp hv => k (i + 1) p v (by simpa using hp) (by simpa using hv)⟩

/-- The cells from an address on: no one turns them. -/
def Row (M : Av) (w : World) (ad : Addr) (n : Nat) (ps : List Pr) : Prop := ∀ j p, ps[j]? = some p → ∃ u, w.cell? (ad.add (n + j)) = some u ∧ ¬ M ad.block (ad.off + (n + j)) ∧ u.oneCell' = true ∧ p.h M w u
theorem Row.st {M M' : Av} {w w' : World} (he : Ext M w M' w') {ad : Addr} {n : Nat} {ps : List Pr} (h : Row M w ad n ps) : Row M' w' ad n ps :=
  fun j p hp => by
    obtain ⟨u, hc, hm, h1c, hu⟩ := h j p hp
    obtain ⟨h1, h2⟩ := he.keep _ _ hc (by rw [add_block, add_off]; exact hm)
    rw [add_block, add_off] at h1
    exact ⟨u, h2, h1, h1c, p.st _ _ _ _ _ he hu⟩

/-- A slice of rows of cells. -/
def slice (sz : Nat) (rows : List (List Pr)) : Pr where
  h M w v := ∃ (a : Option Addr) (cap : Nat), v = .slice a rows.length cap ∧ rows.length ≤ cap ∧ cap ≤ maxLen ∧ (a = none → cap = 0) ∧
    ∀ i row, rows[i]? = some row → row.length = sz ∧ ∃ ad, a = some ad ∧ Row M w ad (i * sz) row
  st M w M' w' v he h := by
    obtain ⟨a, cap, h1, h2, h3, h4, h5⟩ := h
    refine ⟨a, cap, h1, h2, h3, h4, fun i row hr => ?_⟩
    obtain ⟨hl, ad, h6, h9⟩ := h5 i row hr
    exact ⟨hl, ad, h6, h9.st he⟩

/-- A slice without room behind its end. -/
def full (sz : Nat) (rows : List (List Pr)) : Pr where
  h M w v := (slice sz rows).h M w v ∧ ∃ a, v = .slice a rows.length rows.length
  st _M _w _M' _w' _v he h := ⟨(slice sz rows).st _ _ _ _ _ he h.1, h.2⟩
theorem full_le (sz : Nat) (rows : List (List Pr)) : Pr.le (full sz rows) (slice sz rows) := fun _ _ _ h => h.1

/-- A pointer to cells that nobody turns. -/
def ref (ps : List Pr) : Pr where
  h M w v := ∃ ad, v = .pointer (some ad) ∧ Row M w ad 0 ps
  st M w M' w' v he h := by
    obtain ⟨ad, h1, h4⟩ := h
    exact ⟨ad, h1, h4.st he⟩

/-- A struct or array by value. -/
def agg (ps : List Pr) : Pr where
  h M w v := ∃ cs : List Value, v = .agg cs.toArray ∧ (∀ c ∈ cs, c.oneCell' = true) ∧ HL M w ps cs
  st M w M' w' v he h := by
    obtain ⟨cs, h1, h0, h2⟩ := h
    exact ⟨cs, h1, h0, h2.st he⟩

def tup (ps : List Pr) : Pr where
  h M w v := ∃ cs : List Value, v = .tuple cs.toArray ∧ HL M w ps cs
  st M w M' w' v he h := by
    obtain ⟨cs, h1, h2⟩ := h
    exact ⟨cs, h1, h2.st he⟩

/-- A function value of this program's text, with what it captured. -/
def fn (f : Fn) (caps : List Pr) : Pr where
  h M w v := ∃ cs : List Value, v = .func f #[] cs.toArray ∧ HL M w caps cs
  st M w M' w' v he h := by
    obtain ⟨cs, h1, h2⟩ := h
    exact ⟨cs, h1, h2.st he⟩

def ex {α : Type} (p : α → Pr) : Pr where
  h M w v := ∃ x, (p x).h M w v
  st _M _w _M' _w' _v he h := let ⟨x, hx⟩ := h; ⟨x, (p x).st _ _ _ _ _ he hx⟩

/-- p, and besides a fact that hangs on nothing. -/
def fact (φ : Prop) (p : Pr) : Pr where
  h M w v := φ ∧ p.h M w v
  st _M _w _M' _w' _v he h := ⟨h.1, p.st _ _ _ _ _ he h.2⟩

/-! ### What a function does -/

/-- What may turn is there already. -/
def Bd (M : Av) (w : World) : Prop := ∀ b o, M b o → b < w.heap.size

def Entry (P : Program) (f : FuncId) : Prop := ∃ g : Func, P.funcs[f]? = some g ∧ (g.name == "runtime.NumGoroutine") = false ∧ g.body.isNone = false

/-- A function that turns nothing that was there: arguments that read so, a result that reads so. -/
def Fun (P : Program) (f : FuncId) (args : List Pr) (res : Pr) : Prop := Entry P f ∧ ∀ M w vs, Bd M w → HL M w args vs →
  Calls P f vs.toArray w fun e w' => ∃ v, e = .returned v ∧ res.h M w' v ∧ Below w.heap.size w w'

theorem Fun.le {P : Program} {f : FuncId} {args args' : List Pr} {res res' : Pr} (h : Fun P f args res) (ha : ∀ M w vs, HL M w args' vs → HL M w args vs) (hr : Pr.le res res') : Fun P f args' res' :=
  ⟨h.1, fun M w vs hb hv => (h.2 M w vs hb (ha M w vs hv)).mono fun _e _w' ⟨v, h1, h2, h3⟩ => ⟨v, h1, hr _ _ _ h2, h3⟩⟩

/-- A function value that behaves so, now and whenever. -/
def clo {α : Type} (P : Program) (dom : α → List Pr) (res : α → Pr) : Pr where
  h M w v := ∃ f caps, v = .func (.func f) #[] caps ∧ Entry P f ∧ ∀ M' w', Ext M w M' w' → Bd M' w' → ∀ x vs, HL M' w' (dom x) vs →
    Calls P f (vs.toArray ++ caps) w' fun e w'' => ∃ u, e = .returned u ∧ (res x).h M' w'' u ∧ Below w'.heap.size w' w''
  st M w M' w' v he h := by
    obtain ⟨f, caps, h1, h2, h3⟩ := h
    exact ⟨f, caps, h1, h2, fun M2 w2 he2 => h3 M2 w2 (he.trans he2)⟩

theorem fn_le_clo {α : Type} {P : Program} {f : FuncId} {caps : List Pr} {dom : α → List Pr} {res : α → Pr} (he : Entry P f) (h : ∀ x, Fun P f (dom x ++ caps) (res x)) : Pr.le (fn (.func f) caps) (clo P dom res) := by
  rintro M w v ⟨cs, rfl, hc⟩
  refine ⟨f, cs.toArray, rfl, he, fun M' w' hx hb x vs hv => ?_⟩
  have := (h x).2 M' w' (vs ++ cs) hb (hv.app (hc.st hx))
  simpa using this

/-! ### States of a walk -/

abbrev Env := List (Nat × Pr)

structure Asn where
  h : Av → World → Prop
  st : ∀ M w w', Below w.heap.size w w' → h M w → h M w'
  bd : ∀ M w, h M w → Bd M w

def EnvOK (M : Av) (w : World) (E : Env) (a : Act) : Prop := ∀ s p, E.lookup s = some p → p.h M w (a.tmps.getD s undef)

def St (n : Nat) (E : Env) (I : Asn) (a : Act) (w : World) : Prop := ∃ M, a.tmps.size = n ∧ a.defers = [] ∧ EnvOK M w E a ∧ I.h M w

def Tr (P : Program) (n : Nat) (E : Env) (I : Asn) (c : Code) (Q : Exit → Act → World → Prop) : Prop := ∀ a w, St n E I a w → c.wp P Q a w

def Val (E : Env) : Operand → Option Pr
  | .tmp s => E.lookup s
  | .const v => some (is v)
  | .func f => some (fn (.func f) [])
  | .global g => some (is (.pointer (some ⟨g, 0, none⟩)))

theorem Val.eval {M : Av} {w : World} {E : Env} {a : Act} (h : EnvOK M w E a) {x : Operand} {p : Pr} (hx : Val E x = some p) : p.h M w (a.eval x) := by
  cases x with
  | tmp s => exact h s p hx
  | const v => simp only [Val, Option.some.injEq] at hx; subst hx; rfl
  | global g => simp only [Val, Option.some.injEq] at hx; subst hx; rfl
  | func f => simp only [Val, Option.some.injEq] at hx; subst hx; exact ⟨[], rfl, trivial⟩

/-- The arguments of a call, each as strong as asked. -/
def Vals (E : Env) : List Operand → List Pr → Prop
  | [], [] => True
  | x :: xs, p :: ps => (∃ q, Val E x = some q ∧ Pr.le q p) ∧ Vals E xs ps
  | _, _ => False

theorem Vals.eval {M : Av} {w : World} {E : Env} {a : Act} (h : EnvOK M w E a) : ∀ {xs : List Operand} {ps : List Pr}, Vals E xs ps → HL M w ps (xs.map a.eval)
  | [], [], _ => trivial
  | [], _ :: _, hh => hh.elim
  | _ :: _, [], hh => hh.elim
  | _ :: _, _ :: _, hh => let ⟨_q, hq, hl⟩ := hh.1; ⟨hl _ _ _ (Val.eval h hq), Vals.eval h hh.2⟩

/-- The slots that an operation looks at. -/
def looks (o : Oper) : List Nat := o.op.operands.toList.filterMap fun | .tmp t => some t | _ => none
def EnvFor (M : Av) (w : World) (E : Env) (o : Oper) (a : Act) : Prop := ∀ s p, s ∈ looks o → E.lookup s = some p → p.h M w (a.tmps.getD s undef)

theorem Val.evalFor {M : Av} {w : World} {E : Env} {o : Oper} {a : Act} (h : EnvFor M w E o a) {x : Operand} {p : Pr} (hm : x ∈ o.op.operands.toList) (hx : Val E x = some p) : p.h M w (a.eval x) := by
  cases x with
  | tmp s => exact h s p (List.mem_filterMap.2 ⟨_, hm, rfl⟩) hx
  | const v => simp only [Val, Option.some.injEq] at hx; subst hx; rfl
  | global g => simp only [Val, Option.some.injEq] at hx; subst hx; rfl
  | func f => simp only [Val, Option.some.injEq] at hx; subst hx; exact ⟨[], rfl, trivial⟩

theorem Vals.evalFor {M : Av} {w : World} {E : Env} {o : Oper} {a : Act} (h : EnvFor M w E o a) : ∀ {xs : List Operand} {ps : List Pr}, (∀ x ∈ xs, x ∈ o.op.operands.toList) → Vals E xs ps → HL M w ps (xs.map a.eval)
  | [], [], _, _ => trivial
  | [], _ :: _, _, hh => hh.elim
  | _ :: _, [], _, hh => hh.elim
  | _ :: _, _ :: _, hm, hh => let ⟨q, hq, hl⟩ := hh.1; ⟨hl _ _ _ (Val.evalFor h (hm _ (by simp)) hq), Vals.evalFor h (fun x hx => hm x (by simp [hx])) hh.2⟩

/-- What an operation that turns nothing yields. -/
def Gives (P : Program) (M : Av) (w : World) (p : Pr) : Result Next → Prop
  | .ok (.value v) w' => p.h M w' v ∧ Below w.heap.size w w'
  | .ok .skip w' => p.h M w' undef ∧ Below w.heap.size w w'
  | .ok (.enter f args) w' => Below w.heap.size w w' ∧ Calls P f args w' fun e w'' => ∃ v, e = .returned v ∧ p.h M w'' v ∧ Below w'.heap.size w' w''
  | _ => False

def OpOK (P : Program) (I : Asn) (o : Oper) (E : Env) (p : Pr) : Prop :=
  ∀ M w (a : Act), EnvFor M w E o a → I.h M w → Gives P M w p ((execOp a.eval o).run P w)

def upd (o : Oper) (p : Pr) (E : Env) : Env := match o.dst with | some d => (d, p) :: E | none => E

/-- What a guard yields: a truth value, or nothing (its operation was not done). -/
def obool : Option Bool → Pr
  | some b => bool b
  | none => is undef
/-- With its guard. -/
def GOK (P : Program) (I : Asn) (ops : Array Oper) (o : Oper) (E : Env) (p : Pr) : Prop :=
  match o.guard with
  | none => OpOK P I o E p
  | some (j, want) => ∃ (d : Nat) (b : Option Bool), (ops[j]?).bind (·.dst) = some d ∧ E.lookup d = some (obool b) ∧ (b = some want → OpOK P I o E p) ∧ (b ≠ some want → p = is undef)

def Ch (P : Program) (n : Nat) (I : Asn) (ops : Array Oper) : List Oper → Env → (Env → Prop) → Prop
  | [], E, K => K E
  | o :: r, E, K => ∃ p, GOK P I ops o E p ∧ (∀ d, o.dst = some d → d < n) ∧ Ch P n I ops r (upd o p E) K

theorem Ch.nil {P : Program} {n : Nat} {I : Asn} {ops : Array Oper} {E : Env} {K : Env → Prop} (h : K E) : Ch P n I ops [] E K := h
theorem Ch.op {P : Program} {n : Nat} {I : Asn} {ops : Array Oper} {o : Oper} {r : List Oper} {E : Env} {K : Env → Prop} {d : Nat} {p : Pr} (hg : o.guard = none) (hd : o.dst = some d) (hn : d < n) (h : OpOK P I o E p)
    (k : Ch P n I ops r ((d, p) :: E) K) : Ch P n I ops (o :: r) E K :=
  ⟨p, by unfold GOK; rw [hg]; exact h, fun d' hd' => by rw [hd] at hd'; cases hd'; exact hn, by unfold upd; rw [hd]; exact k⟩
theorem Ch.yes {P : Program} {n : Nat} {I : Asn} {ops : Array Oper} {o : Oper} {r : List Oper} {E : Env} {K : Env → Prop} {d g j : Nat} {b want : Bool} {p : Pr} (hg : o.guard = some (j, want)) (hj : (ops[j]?).bind (·.dst) = some g)
    (hb : E.lookup g = some (bool b)) (hbw : b = want) (hd : o.dst = some d) (hn : d < n) (h : OpOK P I o E p)
    (k : Ch P n I ops r ((d, p) :: E) K) : Ch P n I ops (o :: r) E K :=
  ⟨p, by unfold GOK; rw [hg]; exact ⟨g, some b, hj, hb, fun _ => h, fun hne => absurd (congrArg some hbw) hne⟩, fun d' hd' => by rw [hd] at hd'; cases hd'; exact hn, by unfold upd; rw [hd]; exact k⟩
theorem Ch.no {P : Program} {n : Nat} {I : Asn} {ops : Array Oper} {o : Oper} {r : List Oper} {E : Env} {K : Env → Prop} {d g j : Nat} {b want : Bool} (hg : o.guard = some (j, want)) (hj : (ops[j]?).bind (·.dst) = some g)
    (hb : E.lookup g = some (bool b)) (hbw : b ≠ want) (hd : o.dst = some d) (hn : d < n)
    (k : Ch P n I ops r ((d, is undef) :: E) K) : Ch P n I ops (o :: r) E K :=
  ⟨is undef, by unfold GOK; rw [hg]; exact ⟨g, some b, hj, hb, fun he => absurd (Option.some.inj he) hbw, fun _ => rfl⟩, fun d' hd' => by rw [hd] at hd'; cases hd'; exact hn, by unfold upd; rw [hd]; exact k⟩

/-- Its guard was not done: it is not either. -/
theorem Ch.un {P : Program} {n : Nat} {I : Asn} {ops : Array Oper} {o : Oper} {r : List Oper} {E : Env} {K : Env → Prop} {d g j : Nat} {want : Bool} (hg : o.guard = some (j, want)) (hj : (ops[j]?).bind (·.dst) = some g)
    (hb : E.lookup g = some (is undef)) (hd : o.dst = some d) (hn : d < n)
    (k : Ch P n I ops r ((d, is undef) :: E) K) : Ch P n I ops (o :: r) E K :=
  ⟨is undef, by unfold GOK; rw [hg]; exact ⟨g, none, hj, hb, fun he => (by cases he), fun _ => rfl⟩, fun d' hd' => by rw [hd] at hd'; cases hd'; exact hn, by unfold upd; rw [hd]; exact k⟩

theorem put_size (a : Act) (dst : Option Tmp) (v : Value) : (a.put dst v).tmps.size = a.tmps.size := by cases dst <;> simp [Act.put]
theorem put_defers (a : Act) (dst : Option Tmp) (v : Value) : (a.put dst v).defers = a.defers := by cases dst <;> rfl
theorem put_same {a : Act} {d : Nat} {v : Value} (h : d < a.tmps.size) : (a.put (some d) v).tmps.getD d undef = v := by simp [Act.put, Array.getD_eq_getD_getElem?, h]
theorem put_other {a : Act} {d s : Nat} {v : Value} (h : s ≠ d) : (a.put (some d) v).tmps.getD s undef = a.tmps.getD s undef := by
  simp [Act.put, Array.getD_eq_getD_getElem?, Ne.symm h]

theorem EnvOK.put {M : Av} {w w' : World} {E : Env} {a : Act} {o : Oper} {p : Pr} {v : Value} (h : EnvOK M w E a) (hb : Below w.heap.size w w') (hp : p.h M w' v) (hn : ∀ d, o.dst = some d → d < a.tmps.size) :
    EnvOK M w' (upd o p E) (a.put o.dst v) := by
  intro s q hq
  unfold upd at hq
  cases hd : o.dst with
  | none => rw [hd] at hq; exact q.st _ _ _ _ _ (Ext.below hb) (h s q hq)
  | some d =>
    rw [hd] at hq
    simp only [List.lookup] at hq
    by_cases hs : s = d
    · subst hs
      simp only [beq_self_eq_true, Option.some.injEq] at hq
      subst hq
      rw [put_same (hn _ hd)]; exact hp
    · rw [show (s == d) = false by simpa using hs] at hq
      rw [put_other hs]
      exact q.st _ _ _ _ _ (Ext.below hb) (h s q hq)

end Cp
