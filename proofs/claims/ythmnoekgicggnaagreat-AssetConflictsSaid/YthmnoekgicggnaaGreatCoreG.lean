/-
  A region that draws its order and writes to memory of ours: what an operation finds in its slots, and of the memory that it turns, is what it finds in the text's order.
-/
import Derived.Test.YthmnoekgicggnaaGreatCoreF
namespace Cp
open Go Go.RowKit

section
variable {P : Program} {n : Nat} {E : Env} {I : Asn} {Q : Exit → Act → World → Prop} {M0 : Av} {w0 : World} {S : Nat → Prop}

/-- A resource that is about the value in a slot. -/
structure SR where
  s : Nat
  f : Value → Res
def SR.at_ (a : Act) (R : SR) : Res := R.f (a.tmps.getD R.s undef)
/-- One that hangs on no slot. -/
def SR.c (r : Res) : SR := ⟨0, fun _ => r⟩
def noRes : Res := ⟨none, true, fun _ _ => True, fun _ _ _ _ _ _ _ => trivial⟩

inductive Kind where
  | pure
  | rd (j : Nat) (R : SR)
  | ef (j : Nat) (R R' : SR)

structure X where
  o : Oper
  p : Pr
  k : Kind

def GivesR (P : Program) (M0 : Av) (w0 : World) (S : Nat → Prop) (o : Oper) (a : Act) (M : Av) (w : World) (p : Pr) (j : Nat) (R' : SR) (rs : List Res) : Result Next → Prop
  | .ok (.value v) w' => ∃ M', p.h M' w' v ∧ Ext M w M' w' ∧ HpH M0 w0 S (rs.set j (R'.at_ (a.put o.dst v))) M' w'
  | .ok .skip w' => ∃ M', p.h M' w' undef ∧ Ext M w M' w' ∧ HpH M0 w0 S (rs.set j (R'.at_ (a.put o.dst undef))) M' w'
  | .ok (.enter f args) w' => Calls P f args w' fun e w'' => ∃ v M', e = .returned v ∧ p.h M' w'' v ∧ Ext M w M' w'' ∧ HpH M0 w0 S (rs.set j (R'.at_ (a.put o.dst v))) M' w''
  | _ => False

def OpRd (P : Program) (M0 : Av) (w0 : World) (S : Nat → Prop) (j : Nat) (R : SR) (o : Oper) (E : Env) (p : Pr) : Prop :=
  ∀ M w (a : Act) rs, EnvFor M w E o a → HpH M0 w0 S rs M w → rs[j]? = some (R.at_ a) → Gives P M w p ((execOp a.eval o).run P w)
def OpEf (P : Program) (M0 : Av) (w0 : World) (S : Nat → Prop) (n j : Nat) (R R' : SR) (o : Oper) (E : Env) (p : Pr) : Prop :=
  o.guard = none ∧ ∀ M w (a : Act) rs, a.tmps.size = n → EnvFor M w E o a → HpH M0 w0 S rs M w → rs[j]? = some (R.at_ a) → GivesR P M0 w0 S o a M w p j R' rs ((execOp a.eval o).run P w)

def XOK (P : Program) (M0 : Av) (w0 : World) (S : Nat → Prop) (n : Nat) (ops : Array Oper) (E : Env) (rs : List SR) (x : X) : Prop :=
  match x.k with
  | .pure => match x.o.guard with
    | none => ∀ I : Asn, OpOK P I x.o E x.p
    | some (j, want) => ∃ (d : Nat) (b : Option Bool), (ops[j]?).bind (·.dst) = some d ∧ E.lookup d = some (obool b) ∧ (b = some want → ∀ I : Asn, OpOK P I x.o E x.p) ∧ (b ≠ some want → x.p = is undef)
  | .rd i R => rs[i]? = some R ∧ match x.o.guard with
    | none => OpRd P M0 w0 S i R x.o E x.p
    | some (j, want) => ∃ (d : Nat) (b : Option Bool), (ops[j]?).bind (·.dst) = some d ∧ E.lookup d = some (obool b) ∧ (b = some want → OpRd P M0 w0 S i R x.o E x.p) ∧ (b ≠ some want → x.p = is undef)
  | .ef i R R' => rs[i]? = some R ∧ OpEf P M0 w0 S n i R R' x.o E x.p

def updR (k : Kind) (rs : List SR) : List SR := match k with | .ef j _ R' => rs.set j R' | _ => rs

/-- The chain: the operations in the text's order, each with what it is said to do (the list is given back by its end). -/
def Cx (P : Program) (M0 : Av) (w0 : World) (S : Nat → Prop) (n : Nat) (ops : Array Oper) : List Oper → Env → List SR → (List X → Env → List SR → Prop) → Prop
  | [], E, rs, K => K [] E rs
  | o :: r, E, rs, K => ∃ p k, XOK P M0 w0 S n ops E rs ⟨o, p, k⟩ ∧ (∀ d, o.dst = some d → d < n) ∧ Cx P M0 w0 S n ops r (upd o p E) (updR k rs) (fun L E' rs' => K (⟨o, p, k⟩ :: L) E' rs')

/-! ### What comes before what -/

def maskOf (acc : List Nat) (o : Oper) : Nat := o.after.toList.foldl (fun s e => if Region.binds .any e then s ||| (1 <<< e.on) ||| acc.getD e.on 0 else s) 0
def befsGo : List Nat → List Oper → List Nat
  | acc, [] => acc
  | acc, o :: r => befsGo (acc ++ [maskOf acc o]) r
def befs (l : List Oper) : List Nat := befsGo [] l

theorem befsGo_old : ∀ (r : List Oper) (acc : List Nat) (j : Nat), j < acc.length → (befsGo acc r).getD j 0 = acc.getD j 0
  | [], _, _, _ => rfl
  | o :: r, acc, j, h => by
    unfold befsGo
    rw [befsGo_old r _ j (by simp; omega)]
    simp [List.getD_eq_getElem?_getD, List.getElem?_append_left h]

theorem fold_bit (acc : List Nat) (k : Nat) : ∀ (es : List Edge) (s : Nat), (es.foldl (fun s e => if Region.binds .any e then s ||| (1 <<< e.on) ||| acc.getD e.on 0 else s) s).testBit k = true →
    s.testBit k = true ∨ ∃ e ∈ es, Region.binds .any e = true ∧ (e.on = k ∨ (acc.getD e.on 0).testBit k = true)
  | [], s, h => .inl h
  | e :: es, s, h => by
    rcases fold_bit acc k es _ h with h1 | ⟨e', he', h1⟩
    · dsimp only at h1
      by_cases hb : Region.binds .any e = true
      · rw [if_pos hb] at h1
        simp only [Nat.testBit_or, Bool.or_eq_true] at h1
        rcases h1 with (h1 | h1) | h1
        · exact .inl h1
        · refine .inr ⟨e, by simp, hb, .inl ?_⟩
          rw [Nat.one_shiftLeft, Nat.testBit_two_pow] at h1
          simpa using h1
        · exact .inr ⟨e, by simp, hb, .inr h1⟩
      · rw [if_neg hb] at h1; exact .inl h1
    · exact .inr ⟨e', by simp [he'], h1⟩

theorem befsGo_spec (D : Nat → Prop) (l : List Oper) (hdown : ∀ (j : Nat) o, l[j]? = some o → D j → ∀ e ∈ o.after, Region.binds .any e = true → D e.on) :
    ∀ (r : List Oper) (acc : List Nat) (pre : List Oper), l = pre ++ r → acc.length = pre.length →
      (∀ (i : Nat) o, i < acc.length → l[i]? = some o → (∀ e ∈ o.after, Region.binds .any e = true → D e.on) → ∀ k, (acc.getD i 0).testBit k = true → D k) →
      ∀ (i : Nat) o, l[i]? = some o → (∀ e ∈ o.after, Region.binds .any e = true → D e.on) → ∀ k, ((befsGo acc r).getD i 0).testBit k = true → D k
  | [], acc, pre, hl, ha, h, i, o, ho, hp, k, hk => by
    unfold befsGo at hk
    refine h i o ?_ ho hp k hk
    rcases Nat.lt_or_ge i acc.length with h1 | h1
    · exact h1
    · rw [List.getD_eq_getElem?_getD, List.getElem?_eq_none h1] at hk; simp at hk
  | q :: r, acc, pre, hl, ha, h, i, o, ho, hp, k, hk => by
    unfold befsGo at hk
    refine befsGo_spec D l hdown r (acc ++ [maskOf acc q]) (pre ++ [q]) (by simp [hl]) (by simp [ha]) ?_ i o ho hp k hk
    intro i' o' hi' ho' hp' k' hk'
    by_cases hlt : i' < acc.length
    · refine h i' o' hlt ho' hp' k' ?_
      rwa [List.getD_eq_getElem?_getD, List.getElem?_append_left hlt, ← List.getD_eq_getElem?_getD] at hk'
    · have hie : i' = acc.length := by simp at hi'; omega
      subst hie
      rw [List.getD_eq_getElem?_getD, List.getElem?_append_right (Nat.le_refl _)] at hk'
      simp only [Nat.sub_self, List.getElem?_cons_zero, Option.getD_some] at hk'
      have hq : o' = q := by
        rw [hl, ha, List.getElem?_append_right (Nat.le_refl _)] at ho'
        simpa using ho'.symm
      subst hq
      unfold maskOf at hk'
      rcases fold_bit acc k' _ _ hk' with h1 | ⟨e, he, hb, h1⟩
      · simp at h1
      · have hD := hp' e (by simpa using he) hb
        rcases h1 with h1 | h1
        · rw [← h1]; exact hD
        · have hel : e.on < acc.length := by
            rcases Nat.lt_or_ge e.on acc.length with h2 | h2
            · exact h2
            · rw [List.getD_eq_getElem?_getD, List.getElem?_eq_none h2] at h1; simp at h1
          have hlen : e.on < l.length := by rw [hl]; simp; omega
          exact h e.on l[e.on] hel (List.getElem?_eq_getElem hlen) (fun e' he' hb' => hdown e.on _ (List.getElem?_eq_getElem hlen) hD e' he' hb') k' h1
theorem befs_spec (D : Nat → Prop) (l : List Oper) (hdown : ∀ (j : Nat) o, l[j]? = some o → D j → ∀ e ∈ o.after, Region.binds .any e = true → D e.on)
    (i : Nat) (o : Oper) (ho : l[i]? = some o) (hp : ∀ e ∈ o.after, Region.binds .any e = true → D e.on) (k : Nat) (hk : ((befs l).getD i 0).testBit k = true) : D k :=
  befsGo_spec D l hdown l [] [] rfl rfl (fun i o h => absurd h (by simp)) i o ho hp k hk

/-- What an entry touches: its slots (its guard's, and those of the resource that it is about, among them), its resource. -/
def Kind.slots : Kind → List Nat
  | .pure => []
  | .rd _ R => [R.s]
  | .ef _ R _ => [R.s]
def Kind.res : Kind → Option Nat
  | .pure => none
  | .rd j _ => some j
  | .ef j _ _ => some j
def Kind.wr : Kind → Option Nat
  | .ef j _ _ => some j
  | _ => none

/-- The kinds, as numbers alone: the slot that is looked at besides, the resource, whether it is turned, the slot that its new word is about. -/
abbrev KN := Option (Nat × Nat × Bool × Nat)
def Kind.nums : Kind → KN
  | .pure => none
  | .rd j R => some (R.s, j, false, 0)
  | .ef j R R' => some (R.s, j, true, R'.s)

def seenX (ops : Array Oper) (o : Oper) (k : KN) : List Nat := seen ops o ++ (match k with | some (s, _) => [s] | none => [])
def before2 (b : List Nat) (i k : Nat) : Bool := (decide (k < i) && (b.getD i 0).testBit k) || (decide (i < k) && (b.getD k 0).testBit i)
/-- (the last line: what a new word is about is the slot that the operation writes, or one that something before it does, or nothing) -/
def drawOkX (l : List Oper) (ks : List KN) : Bool :=
  let b := befs l
  (l.zip ks).zipIdx.all fun ((o, k), i) =>
    (o.after.all fun e => !Region.binds .any e || decide (e.on < i)) &&
    (l.zip ks).zipIdx.all fun ((q, kq), m) => m == i ||
      ((match q.dst with
        | none => true
        | some s => o.dst != some s && (!(seenX l.toArray o k).contains s || before2 b i m)) &&
       (match k, kq with
        | some (_, j, _, _), some (_, j', true, _s') => j != j' || before2 b i m
        | _, _ => true) &&
       (match kq with
        | some (_, _, true, s') => o.dst != some s' || (decide (i < m) && before2 b i m)
        | _ => true))

def curX (sel : Nat → Bool) : Nat → List X → Env → Env
  | _, [], E => E
  | k, x :: L, E => curX sel (k + 1) L (if sel k then upd x.o x.p E else E)
theorem curX_cur (sel : Nat → Bool) : ∀ (L : List X) (k : Nat) (E : Env), curX sel k L E = cur sel k (L.map fun x => (x.o, x.p)) E
  | [], _, _ => rfl
  | x :: L, k, E => by unfold curX; rw [curX_cur sel L]; rfl
def curR (sel : Nat → Bool) : Nat → List X → List SR → List SR
  | _, [], rs => rs
  | k, x :: L, rs => curR sel (k + 1) L (if sel k then updR x.k rs else rs)

theorem updR_length (k : Kind) (rs : List SR) : (updR k rs).length = rs.length := by cases k <;> simp [updR]
theorem curR_length (sel : Nat → Bool) : ∀ (L : List X) (k : Nat) (rs : List SR), (curR sel k L rs).length = rs.length
  | [], _, _ => rfl
  | x :: L, k, rs => by unfold curR; rw [curR_length sel L]; split; exact updR_length _ _; rfl
theorem updR_other {k : Kind} {rs : List SR} {j : Nat} (h : k.wr ≠ some j) : (updR k rs)[j]? = rs[j]? := by
  cases k with
  | ef i R R' => simp only [updR]; rw [List.getElem?_set_ne (fun e => h (by rw [← e]; rfl))]
  | _ => rfl
/-- Two selections that agree on what turns the resource j leave the same of it. -/
theorem curR_agree {sel sel' : Nat → Bool} {j : Nat} : ∀ (L : List X) (k : Nat) (rs rs' : List SR), rs.length = rs'.length → rs[j]? = rs'[j]? → (∀ i x, L[i]? = some x → x.k.wr = some j → sel (k + i) = sel' (k + i)) →
    (curR sel k L rs)[j]? = (curR sel' k L rs')[j]?
  | [], _, _, _, _, h, _ => h
  | x :: L, k, rs, rs', hl, h, hs => by
    unfold curR
    have hlen : ∀ (b : Bool) (r : List SR), (if b then updR x.k r else r).length = r.length := by intro b r; cases b; rfl; exact updR_length _ _
    refine curR_agree L (k + 1) _ _ (by rw [hlen, hlen, hl]) ?_ (fun i y hy hw => by have := hs (i + 1) y (by simpa using hy) hw; rwa [show k + (i + 1) = k + 1 + i by omega] at this)
    by_cases hw : x.k.wr = some j
    · have := hs 0 x rfl hw
      simp only [Nat.add_zero] at this
      rw [this]
      cases sel' k with
      | false => simpa using h
      | true =>
        simp only [if_true]
        cases hk : x.k with
        | ef i R R' =>
          rw [hk] at hw
          simp only [Kind.wr, Option.some.injEq] at hw
          subst hw
          simp only [updR]
          rw [List.getElem?_set, List.getElem?_set, hl, if_pos rfl, if_pos rfl]
        | _ => rw [hk] at hw; cases hw
    · have h1 : ∀ (b : Bool) (r : List SR), (if b then updR x.k r else r)[j]? = r[j]? := by intro b r; cases b; rfl; exact updR_other hw
      rw [h1, h1, h]

theorem curR_lt (L : List X) (i : Nat) : ∀ (k : Nat) (rs : List SR) (x : X), L[i]? = some x → curR (fun m => decide (m < k + (i + 1))) k L rs = updR x.k (curR (fun m => decide (m < k + i)) k L rs) := by
  induction L generalizing i with
  | nil => intro k rs x h; simp at h
  | cons y L ih =>
    intro k rs x h
    have stop : ∀ (L : List X) (m : Nat) (rs : List SR) (b : Nat), b ≤ m → curR (fun i => decide (i < b)) m L rs = rs := by
      intro L
      induction L with
      | nil => intros; rfl
      | cons z L ih2 => intro m rs b hb; unfold curR; rw [if_neg (by simp; omega)]; exact ih2 _ _ _ (by omega)
    cases i with
    | zero =>
      simp only [List.getElem?_cons_zero, Option.some.injEq] at h
      subst h
      unfold curR
      rw [if_pos (by simp), if_neg (by simp), stop L _ _ _ (by omega), stop L _ _ _ (by omega)]
    | succ i =>
      unfold curR
      rw [if_pos (by simp), if_pos (by simp)]
      have := ih i (k + 1) (updR y.k rs) x (by simpa using h)
      rw [show k + (i + 1 + 1) = k + 1 + (i + 1) by omega, show k + (i + 1) = k + 1 + i by omega]
      exact this

theorem curR_from {sel : Nat → Bool} {j : Nat} {R : SR} : ∀ (L : List X) (k : Nat) (rs : List SR), (curR sel k L rs)[j]? = some R → rs[j]? = some R ∨ ∃ m x R0, L[m]? = some x ∧ sel (k + m) = true ∧ x.k = .ef j R0 R
  | [], _, _, h => .inl h
  | x :: L, k, rs, h => by
    unfold curR at h
    rcases curR_from L (k + 1) _ h with h1 | ⟨m, y, R0, hm, hs, hk⟩
    · by_cases hsel : sel k = true
      · rw [if_pos hsel] at h1
        cases hk : x.k with
        | ef i R1 R' =>
          rw [hk] at h1
          simp only [updR] at h1
          rw [List.getElem?_set] at h1
          split at h1
          · rename_i he
            subst he
            split at h1
            · simp only [Option.some.injEq] at h1
              subst h1
              exact .inr ⟨0, x, R1, rfl, by simpa using hsel, hk⟩
            · cases h1
          · exact .inl h1
        | _ => rw [hk] at h1; exact .inl h1
      · rw [if_neg hsel] at h1; exact .inl h1
    · exact .inr ⟨m + 1, y, R0, by simpa using hm, by rwa [show k + (m + 1) = k + 1 + m by omega], hk⟩

def StX (n : Nat) (M0 : Av) (w0 : World) (S : Nat → Prop) (E : Env) (rs : List SR) (a : Act) (w : World) : Prop :=
  ∃ M, a.tmps.size = n ∧ a.defers = [] ∧ EnvOK M w E a ∧ HpH M0 w0 S (rs.map (·.at_ a)) M w
def FinX (n : Nat) (M0 : Av) (w0 : World) (S : Nat → Prop) (E : Env) (rs : List SR) (Q : Exit → Act → World → Prop) : Prop := ∀ a w, StX n M0 w0 S E rs a w → Q .normal a w

theorem cx_list {ops : Array Oper} {K : List X → Env → List SR → Prop} : ∀ (l : List Oper) (k : Nat) (E : Env) (rs : List SR), Cx P M0 w0 S n ops l E rs K → ∃ L : List X, L.map (·.o) = l ∧
    (∀ (j : Nat) x, L[j]? = some x → XOK P M0 w0 S n ops (curX (fun i => decide (i < k + j)) k L E) (curR (fun i => decide (i < k + j)) k L rs) x ∧ ∀ d, x.o.dst = some d → d < n) ∧
    K L (curX (fun _ => true) k L E) (curR (fun _ => true) k L rs)
  | [], k, E, rs, h => ⟨[], rfl, fun j x hj => by simp at hj, h⟩
  | o :: l, k, E, rs, h => by
    obtain ⟨p, kd, hg, hd, hr⟩ := h
    obtain ⟨L, h1, h2, h3⟩ := cx_list l (k + 1) _ _ hr
    refine ⟨⟨o, p, kd⟩ :: L, by simp [h1], fun j x hj => ?_, by unfold curX curR; simpa using h3⟩
    have stopX : ∀ (L : List X) (m : Nat) (E : Env) (b : Nat), b ≤ m → curX (fun i => decide (i < b)) m L E = E := by
      intro L
      induction L with
      | nil => intros; rfl
      | cons z L ih2 => intro m E b hb; unfold curX; rw [if_neg (by simp; omega)]; exact ih2 _ _ _ (by omega)
    have stopR : ∀ (L : List X) (m : Nat) (rs : List SR) (b : Nat), b ≤ m → curR (fun i => decide (i < b)) m L rs = rs := by
      intro L
      induction L with
      | nil => intros; rfl
      | cons z L ih2 => intro m rs b hb; unfold curR; rw [if_neg (by simp; omega)]; exact ih2 _ _ _ (by omega)
    cases j with
    | zero =>
      simp only [List.getElem?_cons_zero, Option.some.injEq] at hj
      subst hj
      refine ⟨?_, hd⟩
      unfold curX curR
      rw [if_neg (by simp), if_neg (by simp), stopX _ _ _ _ (by omega), stopR _ _ _ _ (by omega)]
      exact hg
    | succ j =>
      have := h2 j x (by simpa using hj)
      unfold curX curR
      rw [if_pos (by simp), if_pos (by simp), show k + (j + 1) = k + 1 + j by omega]
      exact this

theorem at_put {a : Act} {d : Option Tmp} {v : Value} {R : SR} (h : d ≠ some R.s) : R.at_ (a.put d v) = R.at_ a := by
  unfold SR.at_
  cases d with
  | none => rfl
  | some d => rw [put_other (fun e => h (by rw [e]))]
theorem at_c (a : Act) (r : Res) : (SR.c r).at_ a = r := rfl

/-- Where a call, a load .. that turns nothing is met. -/
theorem step_pure {M : Av} {w : World} {o : Oper} {p : Pr} {a : Act} {K : Act → World → Prop} {Q : Exit → Act → World → Prop} (h : Gives P M w p ((execOp a.eval o).run P w))
    (k : ∀ v w', p.h M w' v → Below w.heap.size w w' → K (a.put o.dst v) w') : o.wp P a w K Q ∨ (o.asks P a w ∧ LetsOut Q) := .inl (gives_upon h k)

theorem step_ef {M : Av} {w : World} {o : Oper} {p : Pr} {a : Act} {K : Act → World → Prop} {Q : Exit → Act → World → Prop} {j : Nat} {R' : SR} {rs : List Res} (h : GivesR P M0 w0 S o a M w p j R' rs ((execOp a.eval o).run P w))
    (k : ∀ v w' M', p.h M' w' v → Ext M w M' w' → HpH M0 w0 S (rs.set j (R'.at_ (a.put o.dst v))) M' w' → K (a.put o.dst v) w') : o.wp P a w K Q := by
  unfold Oper.wp
  generalize (execOp a.eval o).run P w = r at h
  cases r with
  | halt x w' => exact h.elim
  | ok x w' =>
    cases x <;> first | exact h.elim | skip
    case value v => obtain ⟨M', h1, h2, h3⟩ := h; exact k _ _ _ h1 h2 h3
    case skip => obtain ⟨M', h1, h2, h3⟩ := h; exact k _ _ _ h1 h2 h3
    case enter f args =>
      refine h.mono ?_
      rintro e w'' ⟨v, M', rfl, h1, h2, h3⟩
      exact k _ _ _ h1 h2 h3

end
end Cp
