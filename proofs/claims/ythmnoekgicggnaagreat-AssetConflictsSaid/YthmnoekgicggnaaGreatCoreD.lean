/-
  What each kind of operation yields, said of readings.
-/
import Derived.Test.YthmnoekgicggnaaGreatCoreC
namespace Cp
open Go Go.RowKit

section
variable {P : Program} {E : Env} {I : Asn} {o : Oper}

/-- An operand that reads at least so. -/
def VL (E : Env) (x : Operand) (p : Pr) : Prop := ∃ q, Val E x = some q ∧ Pr.le q p
theorem vl {x : Operand} {p : Pr} (h : Val E x = some p) : VL E x p := ⟨p, h, Pr.le_refl p⟩
theorem VL.le {x : Operand} {p q : Pr} (h : VL E x q) (hl : Pr.le q p) : VL E x p := let ⟨r, h1, h2⟩ := h; ⟨r, h1, Pr.le_trans h2 hl⟩
theorem VL.ev {M : Av} {w : World} {a : Act} {x : Operand} {p : Pr} (hx : VL E x p) (he : EnvFor M w E o a) (hm : x ∈ o.op.operands.toList) : p.h M w (a.eval x) :=
  let ⟨_, h1, h2⟩ := hx; h2 _ _ _ (Val.evalFor he hm h1)

theorem OpOK.val {p : Pr} (h : ∀ M w (a : Act), EnvFor M w E o a → I.h M w → ∃ v w', (execOp a.eval o).run P w = .ok (.value v) w' ∧ p.h M w' v ∧ Below w.heap.size w w') : OpOK P I o E p := by
  intro M w a he hI
  obtain ⟨v, w', h1, h2, h3⟩ := h M w a he hI
  rw [h1]; exact ⟨h2, h3⟩
theorem OpOK.same {p : Pr} (h : ∀ M w (a : Act), EnvFor M w E o a → I.h M w → ∃ v, (execOp a.eval o).run P w = .ok (.value v) w ∧ p.h M w v) : OpOK P I o E p :=
  OpOK.val fun M w a he hI => let ⟨v, h1, h2⟩ := h M w a he hI; ⟨v, w, h1, h2, Below.refl _ _⟩
theorem OpOK.le {p q : Pr} (h : OpOK P I o E q) (hl : Pr.le q p) : OpOK P I o E p := by
  intro M w a he hI
  have := h M w a he hI
  generalize (execOp a.eval o).run P w = r at this
  cases r with
  | halt x w' => exact this
  | ok x w' =>
    cases x <;> first | exact this | skip
    case value v => exact ⟨hl _ _ _ this.1, this.2⟩
    case skip => exact ⟨hl _ _ _ this.1, this.2⟩
    case enter f args => exact ⟨this.1, this.2.mono fun e w'' ⟨v, h1, h2, h3⟩ => ⟨v, h1, hl _ _ _ h2, h3⟩⟩

theorem ok_move {x : Operand} {p : Pr} (ho : o.op = .move x) (hx : VL E x p) : OpOK P I o E p :=
  OpOK.same fun M w a he _ => ⟨a.eval x, by simp [execOp, ho], hx.ev he (by simp [ho, Op.operands])⟩
theorem ok_assign {x : Operand} {p : Pr} (ho : o.op = .assign x) (hx : VL E x p) : OpOK P I o E p :=
  OpOK.same fun M w a he _ => ⟨a.eval x, by simp [execOp, ho], hx.ev he (by simp [ho, Op.operands])⟩

theorem ok_pick_t {c x y : Operand} {p : Pr} {b : Bool} (ho : o.op = .pick c x y) (hc : VL E c (bool b)) (hb : b = true) (hx : VL E x p) : OpOK P I o E p :=
  OpOK.same fun M w a he _ => by
    have h1 : a.eval c = .bool b := hc.ev he (by simp [ho, Op.operands])
    subst hb
    exact ⟨a.eval x, by simp [execOp, ho, h1, asBool], hx.ev he (by simp [ho, Op.operands])⟩
theorem ok_pick_f {c x y : Operand} {p : Pr} {b : Bool} (ho : o.op = .pick c x y) (hc : VL E c (bool b)) (hb : b = false) (hx : VL E y p) : OpOK P I o E p :=
  OpOK.same fun M w a he _ => by
    have h1 : a.eval c = .bool b := hc.ev he (by simp [ho, Op.operands])
    subst hb
    exact ⟨a.eval y, by simp [execOp, ho, h1, asBool], hx.ev he (by simp [ho, Op.operands])⟩

/-! ### Integers -/

def intOp (op : BinOp) (k : IntKind) (m n : Int) : Option Value :=
  match op with
  | .add => some (.int k (k.wrap (m + n)))
  | .sub => some (.int k (k.wrap (m - n)))
  | .mul => some (.int k (k.wrap (m * n)))
  | .eql => some (.bool (m == n))
  | .neq => some (.bool (m != n))
  | .lss => some (.bool (decide (m < n)))
  | .leq => some (.bool (decide (m ≤ n)))
  | .gtr => some (.bool (decide (m > n)))
  | .geq => some (.bool (decide (m ≥ n)))
  | _ => none

theorem run_intOp {op : BinOp} {k : IntKind} {m n : Int} {r : Value} (h : intOp op k m n = some r) (t : TypeId) (x y : Operand) (w : World) :
    (do eqGuard op t x y (.int k m) (.int k n); binOp op t (.int k m) (.int k n)).run P w = .ok r w := by
  cases op <;> simp [intOp] at h <;> subst h <;> simp [eqGuard, binOp, Op.intArith, Op.intCmp]

theorem ok_int {op : BinOp} {t u : TypeId} {x y : Operand} {k : IntKind} {m n : Int} {r : Value} (ho : o.op = .binOp op t x y u) (hx : VL E x (is (.int k m))) (hy : VL E y (is (.int k n))) (hr : intOp op k m n = some r) : OpOK P I o E (is r) :=
  OpOK.same fun M w a he _ => by
    have h1 : a.eval x = .int k m := hx.ev he (by simp [ho, Op.operands])
    have h2 : a.eval y = .int k n := hy.ev he (by simp [ho, Op.operands])
    refine ⟨r, ?_, rfl⟩
    simp only [execOp, ho, h1, h2]
    rw [Sem.run_bind, run_intOp hr]; rfl

def InI (z : Int) : Prop := -9223372036854775808 ≤ z ∧ z ≤ 9223372036854775807
theorem wrap_in {z : Int} (h : InI z) : IntKind.i64.wrap z = z := IntWalk.i64_in z ⟨h.1, h.2⟩

theorem ok_add {t u : TypeId} {x y : Operand} {m n : Int} (ho : o.op = .binOp .add t x y u) (hx : VL E x (int m)) (hy : VL E y (int n)) (hr : InI (m + n)) : OpOK P I o E (int (m + n)) := by
  have := ok_int (P := P) (I := I) ho hx hy rfl; rwa [wrap_in hr] at this
theorem ok_sub {t u : TypeId} {x y : Operand} {m n : Int} (ho : o.op = .binOp .sub t x y u) (hx : VL E x (int m)) (hy : VL E y (int n)) (hr : InI (m - n)) : OpOK P I o E (int (m - n)) := by
  have := ok_int (P := P) (I := I) ho hx hy rfl; rwa [wrap_in hr] at this
theorem ok_mul {t u : TypeId} {x y : Operand} {m n : Int} (ho : o.op = .binOp .mul t x y u) (hx : VL E x (int m)) (hy : VL E y (int n)) (hr : InI (m * n)) : OpOK P I o E (int (m * n)) := by
  have := ok_int (P := P) (I := I) ho hx hy rfl; rwa [wrap_in hr] at this

theorem ok_rem {t u : TypeId} {x y : Operand} {k : IntKind} {m n : Int} (ho : o.op = .binOp .rem t x y u) (hx : VL E x (is (.int k m))) (hy : VL E y (is (.int k n))) (hn : n ≠ 0) : OpOK P I o E (is (.int k (m.tmod n))) :=
  OpOK.same fun M w a he _ => by
    have h1 : a.eval x = .int k m := hx.ev he (by simp [ho, Op.operands])
    have h2 : a.eval y = .int k n := hy.ev he (by simp [ho, Op.operands])
    exact ⟨_, by simp [execOp, ho, h1, h2, eqGuard, binOp, Op.intDiv, hn], rfl⟩
theorem ok_quo {t u : TypeId} {x y : Operand} {k : IntKind} {m n : Int} (ho : o.op = .binOp .quo t x y u) (hx : VL E x (is (.int k m))) (hy : VL E y (is (.int k n))) (hn : n ≠ 0) : OpOK P I o E (is (.int k (k.wrap (m.tdiv n)))) :=
  OpOK.same fun M w a he _ => by
    have h1 : a.eval x = .int k m := hx.ev he (by simp [ho, Op.operands])
    have h2 : a.eval y = .int k n := hy.ev he (by simp [ho, Op.operands])
    exact ⟨_, by simp [execOp, ho, h1, h2, eqGuard, binOp, Op.intDiv, hn], rfl⟩

theorem ok_not {t : TypeId} {x : Operand} {b : Bool} (ho : o.op = .unOp .not t x) (hx : VL E x (bool b)) : OpOK P I o E (bool (!b)) :=
  OpOK.same fun M w a he _ => by
    have h1 : a.eval x = .bool b := hx.ev he (by simp [ho, Op.operands])
    exact ⟨_, by simp [execOp, ho, h1, Op.unary], rfl⟩

theorem ok_max {x y : Operand} {ts : Array TypeId} {m n : Int} (ho : o.op = .call { callee := .builtin .max, args := #[x, y], argTypes := ts }) (hx : VL E x (int m)) (hy : VL E y (int n)) : OpOK P I o E (int (max m n)) :=
  OpOK.same fun M w a he _ => by
    have h1 : a.eval x = .int .i64 m := hx.ev he (by simp [ho, Op.operands, Call.operands])
    have h2 : a.eval y = .int .i64 n := hy.ev he (by simp [ho, Op.operands, Call.operands])
    refine ⟨.int .i64 (max m n), ?_, rfl⟩
    simp [execOp, ho, resolve, invoke, builtin, Builtin.max_, Builtin.max2, h1, h2]
    omega
theorem ok_min {x y : Operand} {ts : Array TypeId} {m n : Int} (ho : o.op = .call { callee := .builtin .min, args := #[x, y], argTypes := ts }) (hx : VL E x (int m)) (hy : VL E y (int n)) : OpOK P I o E (int (min m n)) :=
  OpOK.same fun M w a he _ => by
    have h1 : a.eval x = .int .i64 m := hx.ev he (by simp [ho, Op.operands, Call.operands])
    have h2 : a.eval y = .int .i64 n := hy.ev he (by simp [ho, Op.operands, Call.operands])
    refine ⟨.int .i64 (min m n), ?_, rfl⟩
    simp [execOp, ho, resolve, invoke, builtin, Builtin.min_, Builtin.min2, h1, h2]
    omega

/-! ### Strings -/
def strOp (op : BinOp) (s t : ByteArray) : Option Bool :=
  match op with
  | .eql => some (s == t)
  | .neq => some (s != t)
  | _ => none

/-! ### Memory -/

/-- A type whose values lie in one cell. -/
def oneB (P : Program) (t : TypeId) : Bool := match P.underlying t with | some (.struct _) | some (.array _ _) => false | some _ => true | none => false
def aggB (P : Program) (t : TypeId) : Bool := match P.underlying t with | some (.struct _) | some (.array _ _) => true | _ => false
def sizeB (P : Program) (t : TypeId) : Option Nat := (P.info? t).map (·.size)

theorem run_isAgg_one {t : TypeId} (h : oneB P t = true) (w : World) : (isAgg t).run P w = .ok false w := by
  unfold oneB at h
  cases hu : P.underlying t with
  | none => rw [hu] at h; cases h
  | some d => rw [hu] at h; cases d <;> first | (cases h; done) | simp [isAgg, run_underlying hu]
theorem run_isAgg_agg {t : TypeId} (h : aggB P t = true) (w : World) : (isAgg t).run P w = .ok true w := by
  unfold aggB at h
  cases hu : P.underlying t with
  | none => rw [hu] at h; cases h
  | some d => rw [hu] at h; cases d <;> first | (cases h; done) | simp [isAgg, run_underlying hu]
theorem run_size {t : TypeId} {n : Nat} (h : sizeB P t = some n) (w : World) : (Go.sizeOf t).run P w = .ok n w := by
  unfold sizeB at h
  cases hi : P.info? t with
  | none => rw [hi] at h; simp at h
  | some i => rw [hi] at h; simp at h; simp [Go.sizeOf, typeInfo, hi, h]

theorem Row.list {M : Av} {w : World} {ad : Addr} {n : Nat} : ∀ {ps : List Pr}, Row M w ad n ps → ∃ cs : List Value, HL M w ps cs ∧ (∀ (j : Nat) v, cs[j]? = some v → w.cell? (ad.add (n + j)) = some v) ∧ ∀ c ∈ cs, c.oneCell' = true
  | [], _ => ⟨[], trivial, fun _ _ h => by simp at h, fun _ h => by simp at h⟩
  | p :: ps, h => by
    obtain ⟨u, hc, _, hu1, hu⟩ := h 0 p rfl
    obtain ⟨cs, h1, h2, h3⟩ := Row.list (n := n + 1) (ps := ps) (M := M) (w := w) (ad := ad) (fun j q hq => by
      have := h (j + 1) q (by simpa using hq)
      rwa [show n + (j + 1) = n + 1 + j by omega] at this)
    refine ⟨u :: cs, ⟨hu, h1⟩, fun j v hv => ?_, fun c hc => by rcases List.mem_cons.1 hc with rfl | hc; exact hu1; exact h3 c hc⟩
    cases j with
    | zero => simp at hv; subst hv; simpa using hc
    | succ j => have := h2 j v (by simpa using hv); rwa [show n + (j + 1) = n + 1 + j by omega]

theorem ok_load1 {t : TypeId} {x : Operand} {p : Pr} {ps : List Pr} (ho : o.op = .load t x) (ht : oneB P t = true) (hx : VL E x (ref (p :: ps))) : OpOK P I o E p :=
  OpOK.same fun M w a he _ => by
    obtain ⟨ad, h1, h2⟩ := hx.ev he (by simp [ho, Op.operands])
    obtain ⟨u, hc, _, _, hu⟩ := h2 0 p rfl
    refine ⟨u, ?_, hu⟩
    have hc' : w.cell? ad = some u := by simpa [Addr.add] using hc
    simp [execOp, ho, h1, Instr.loadAt, Instr.sureAddr, loadVar, run_isAgg_one ht, hc']

theorem ok_loadA {t : TypeId} {x : Operand} {ps qs : List Pr} {m : Nat} (ho : o.op = .load t x) (ht : aggB P t = true) (hz : sizeB P t = some m) (hx : VL E x (ref ps)) (hq : ps.take m = qs) (hm : qs.length = m) : OpOK P I o E (agg qs) :=
  OpOK.same fun M w a he _ => by
    obtain ⟨ad, h1, h2⟩ := hx.ev he (by simp [ho, Op.operands])
    have h3 : Row M w ad 0 qs := fun j p hp => h2 j p (by rw [← hq, List.getElem?_take] at hp; split at hp; exact hp; cases hp)
    obtain ⟨cs, h4, h5, h6⟩ := h3.list
    have hl : cs.length = m := by rw [h4.length, hm]
    refine ⟨.agg cs.toArray, ?_, cs, rfl, h6, h4⟩
    have := run_loadCells_list (P := P) w ad cs (fun j v hv => by simpa using h5 j v hv)
    rw [hl] at this
    simp [execOp, ho, h1, Instr.loadAt, Instr.sureAddr, loadVar, run_isAgg_agg ht, run_size hz, this]

theorem Row.drop {M : Av} {w : World} {ad : Addr} {ps : List Pr} {k : Nat} (h : Row M w ad 0 ps) : Row M w (ad.add k) 0 (ps.drop k) := by
  intro j p hp
  rw [List.getElem?_drop] at hp
  obtain ⟨u, hc, hm, h1, hu⟩ := h (k + j) p hp
  refine ⟨u, by rw [add_add]; simpa using hc, ?_, h1, hu⟩
  rw [add_block, add_off]
  rwa [show ad.off + k + (0 + j) = ad.off + (0 + (k + j)) by omega]

/-- The field's offset in cells, where the field is of at least one cell. -/
def fieldOff (P : Program) (s : TypeId) (f : Nat) : Option Nat :=
  match P.underlying s with
  | some (.struct fs) => match fs[f]? with
    | some fd => match sizeB P fd.type with
      | some (_ + 1) => some fd.offset
      | _ => none
    | none => none
  | _ => none

theorem run_fieldAt {s : TypeId} {f k : Nat} (h : fieldOff P s f = some k) (ad : Addr) (w : World) : (Instr.fieldAt s (.pointer (some ad)) f).run P w = .ok (.pointer (some (ad.add k))) w := by
  unfold fieldOff at h
  cases hu : P.underlying s with
  | none => rw [hu] at h; cases h
  | some d =>
    rw [hu] at h
    cases d with
    | struct fs =>
      simp only at h
      cases hf : fs[f]? with
      | none => rw [hf] at h; cases h
      | some fd =>
        rw [hf] at h
        simp only at h
        cases hz : sizeB P fd.type with
        | none => rw [hz] at h; cases h
        | some m =>
          rw [hz] at h
          cases m with
          | zero => cases h
          | succ m =>
            simp only [Option.some.injEq] at h
            subst h
            simp [Instr.fieldAt, run_underlying hu, hf, Instr.sureAddr, fieldPlace, run_size hz]
    | _ => cases h

theorem ok_fieldAddr {s : TypeId} {x : Operand} {f k : Nat} {ps qs : List Pr} (ho : o.op = .fieldAddr s x f) (hk : fieldOff P s f = some k) (hx : VL E x (ref ps)) (hq : ps.drop k = qs) : OpOK P I o E (ref qs) :=
  OpOK.same fun M w a he _ => by
    obtain ⟨ad, h1, h2⟩ := hx.ev he (by simp [ho, Op.operands])
    refine ⟨.pointer (some (ad.add k)), ?_, ad.add k, rfl, by rw [← hq]; exact h2.drop⟩
    simp [execOp, ho, h1, run_fieldAt hk]

theorem ok_nilCheck_ref {x : Operand} {ps : List Pr} (ho : o.op = .nilCheck x) (hx : VL E x (ref ps)) : OpOK P I o E (ref ps) :=
  OpOK.same fun M w a he _ => by
    have h0 := hx.ev he (by simp [ho, Op.operands])
    obtain ⟨ad, h1, h2⟩ := h0
    exact ⟨.pointer (some ad), by simp [execOp, ho, h1], ad, rfl, h2⟩
theorem ok_nilCheck_fn {x : Operand} {f : FuncId} {caps : List Pr} (ho : o.op = .nilCheck x) (hx : VL E x (fn (.func f) caps)) : OpOK P I o E (fn (.func f) caps) :=
  OpOK.same fun M w a he _ => by
    obtain ⟨cs, h1, h2⟩ := hx.ev he (by simp [ho, Op.operands])
    exact ⟨_, by simp [execOp, ho, h1], cs, rfl, h2⟩

/-- Its value lies in one cell. -/
class One (p : Pr) : Prop where
  one : ∀ M w v, p.h M w v → v.cells = #[v] ∧ v.oneCell' = true
instance one_int (k : IntKind) (n : Int) : One (is (.int k n)) := ⟨by rintro M w v rfl; exact ⟨rfl, rfl⟩⟩
instance one_bool (b : Bool) : One (is (.bool b)) := ⟨by rintro M w v rfl; exact ⟨rfl, rfl⟩⟩
instance one_str (s : ByteArray) : One (is (.string s)) := ⟨by rintro M w v rfl; exact ⟨rfl, rfl⟩⟩
instance one_ptr (a : Option Addr) : One (is (.pointer a)) := ⟨by rintro M w v rfl; exact ⟨rfl, rfl⟩⟩
instance one_isl (a : Option Addr) (n c : Nat) : One (is (.slice a n c)) := ⟨by rintro M w v rfl; exact ⟨rfl, rfl⟩⟩
instance one_slice (sz : Nat) (rows : List (List Pr)) : One (slice sz rows) := ⟨by rintro M w v ⟨a, c, rfl, _⟩; exact ⟨rfl, rfl⟩⟩
instance one_full (sz : Nat) (rows : List (List Pr)) : One (full sz rows) := ⟨by rintro M w v ⟨_, a, rfl⟩; exact ⟨rfl, rfl⟩⟩
instance one_ref (ps : List Pr) : One (ref ps) := ⟨by rintro M w v ⟨a, rfl, _⟩; exact ⟨rfl, rfl⟩⟩
instance one_fn (f : Fn) (ps : List Pr) : One (fn f ps) := ⟨by rintro M w v ⟨a, rfl, _⟩; exact ⟨rfl, rfl⟩⟩
instance one_clo {α : Type} (dom : α → List Pr) (res : α → Pr) : One (clo P dom res) := ⟨by rintro M w v ⟨f, c, rfl, _⟩; exact ⟨rfl, rfl⟩⟩
instance one_fact (φ : Prop) (p : Pr) [One p] : One (fact φ p) := ⟨fun M w v h => One.one M w v h.2⟩
instance one_ex {α : Type} (p : α → Pr) [∀ x, One (p x)] : One (ex p) := ⟨fun M w v ⟨x, h⟩ => One.one (p := p x) M w v h⟩

/-- Its cells read so. -/
def cellsP (ps : List Pr) : Pr where
  h M w v := HL M w ps v.cells.toList ∧ ∀ c ∈ v.cells.toList, c.oneCell' = true
  st _M _w _M' _w' _v he h := ⟨HL.st he h.1, h.2⟩
theorem one_cellsP (p : Pr) [One p] : Pr.le p (cellsP [p]) := by
  intro M w v hv
  obtain ⟨h1, h2⟩ := One.one (p := p) M w v hv
  show HL M w [p] v.cells.toList ∧ _
  rw [h1]; exact ⟨⟨hv, trivial⟩, by simpa using h2⟩
theorem agg_cellsP (ps : List Pr) : Pr.le (agg ps) (cellsP ps) := by
  rintro M w v ⟨cs, rfl, h0, h⟩; simpa [cellsP, Value.cells] using ⟨h, h0⟩

theorem cell_new {w : World} {cs : Array Value} {t : TypeId} (j : Nat) : (w.alloc (.cells cs t)).cell? ⟨w.heap.size, j, none⟩ = cs[j]? := by
  have h : (w.alloc (.cells cs t)).heap[w.heap.size]? = some (.cells cs t (0, 0)) := heap_alloc_new w _
  unfold World.cell?; rw [h]; rfl
theorem row_new {M : Av} {w : World} {ps : List Pr} {cs : List Value} {t : TypeId} (hb : Bd M w) (h : HL M w ps cs) (h1 : ∀ c ∈ cs, c.oneCell' = true) : Row M (w.alloc (.cells cs.toArray t)) ⟨w.heap.size, 0, none⟩ 0 ps := by
  intro j p hp
  obtain ⟨v, hv, hh⟩ := h.at_ j p hp
  refine ⟨v, ?_, ?_, h1 v (List.mem_of_getElem? hv), p.st _ _ _ _ _ (Ext.below ((Below.refl _ _).alloc (Nat.le_refl _) _)) hh⟩
  · rw [show Addr.add ⟨w.heap.size, 0, none⟩ (0 + j) = ⟨w.heap.size, j, none⟩ by unfold Addr.add; split <;> simp_all]
    rw [cell_new]; simp [hv]
  · intro hm; have := hb _ _ hm; simp at this

theorem ok_box {t : TypeId} {x : Operand} {ps : List Pr} (ho : o.op = .box t x) (hx : VL E x (cellsP ps)) : OpOK P I o E (ref ps) :=
  OpOK.val fun M w a he hI => by
    obtain ⟨h1, h2⟩ := hx.ev he (by simp [ho, Op.operands])
    refine ⟨.pointer (some ⟨w.heap.size, 0, none⟩), w.alloc (.cells (a.eval x).cells t), ?_, ⟨_, rfl, ?_⟩, (Below.refl _ _).alloc (Nat.le_refl _) _⟩
    · simp [execOp, ho, Instr.box, newVar, newRow]
    · simpa using row_new (t := t) (I.bd _ _ hI) h1 h2

theorem map_list (xs : Array Operand) (g : Operand → Value) : xs.map g = (xs.toList.map g).toArray := by cases xs; simp

/-! ### Slices -/

theorem ok_len {t : TypeId} {x : Operand} {e : TypeId} {sz : Nat} {rows : List (List Pr)} (ho : o.op = .call { callee := .builtin .len, args := #[x], argTypes := #[t] }) (ht : P.underlying t = some (.slice e)) (hx : VL E x (slice sz rows)) :
    OpOK P I o E (int rows.length) :=
  OpOK.same fun M w a he _ => by
    obtain ⟨ad, cap, h1, h2, h3, _⟩ := hx.ev he (by simp [ho, Op.operands, Call.operands])
    exact ⟨.int .i64 rows.length, by simp [execOp, ho, resolve, invoke, builtin, Builtin.len_, h1, run_underlying ht, goInt], rfl⟩
theorem ok_lenm {t : TypeId} {x : Operand} {e : TypeId} {sz : Nat} {β : Type} {f : β → List Pr} {l : List β} (ho : o.op = .call { callee := .builtin .len, args := #[x], argTypes := #[t] }) (ht : P.underlying t = some (.slice e)) (hx : VL E x (slice sz (l.map f))) :
    OpOK P I o E (int l.length) := by have := ok_len (P := P) (I := I) ho ht hx; rwa [List.length_map] at this

theorem ok_indexAddr {t e : TypeId} {x y : Operand} {k : IntKind} {i : Int} {sz : Nat} {rows : List (List Pr)} {row : List Pr} (ho : o.op = .indexAddr t x y) (ht : P.underlying t = some (.slice e)) (hz : sizeB P e = some sz)
    (hx : VL E x (slice sz rows)) (hy : VL E y (is (.int k i))) (h0 : 0 ≤ i) (hr : rows[i.toNat]? = some row) : OpOK P I o E (ref row) :=
  OpOK.same fun M w a he _ => by
    obtain ⟨ad, cap, h1, h2, h3, _, h4⟩ := hx.ev he (by simp [ho, Op.operands])
    have h5 : a.eval y = .int k i := hy.ev he (by simp [ho, Op.operands])
    obtain ⟨_, b, rfl, h6⟩ := h4 _ _ hr
    have hlt : i.toNat < rows.length := by rcases Nat.lt_or_ge i.toNat rows.length with h | h; exact h; rw [List.getElem?_eq_none h] at hr; cases hr
    refine ⟨.pointer (some (b.add (i.toNat * sz))), ?_, _, rfl, ?_⟩
    · simp [execOp, ho, h1, h5, Instr.indexAt, asIntOf, run_underlying ht, run_size hz, h0, show i < (rows.length : Int) by omega]
    · intro j p hp
      obtain ⟨u, hc, hm, h1, hu⟩ := h6 j p hp
      exact ⟨u, by rw [add_add]; simpa using hc, by rw [add_block, add_off]; simpa [Nat.add_assoc] using hm, h1, hu⟩

def valsE (E : Env) : List Operand → Option (List Pr)
  | [] => some []
  | x :: xs => match Val E x, valsE E xs with
    | some p, some ps => some (p :: ps)
    | _, _ => none
theorem valsE_vals : ∀ {xs : List Operand} {ps : List Pr}, valsE E xs = some ps → Vals E xs ps
  | [], ps, h => by simp [valsE] at h; subst h; trivial
  | x :: xs, ps, h => by
    unfold valsE at h
    cases hx : Val E x with
    | none => rw [hx] at h; simp at h
    | some p =>
      cases hy : valsE E xs with
      | none => rw [hx, hy] at h; simp at h
      | some qs => rw [hx, hy] at h; simp at h; subst h; exact ⟨⟨p, hx, Pr.le_refl p⟩, valsE_vals hy⟩
theorem ok_makeFunc {f : Fn} {caps : Array Operand} {ps : List Pr} (ho : o.op = .makeFunc f #[] caps) (hc' : valsE E caps.toList = some ps) : OpOK P I o E (fn f ps) :=
  OpOK.same fun M w a he _ => by
    have hc := valsE_vals hc'
    have h1 := Vals.evalFor (o := o) he (xs := caps.toList) (fun x hx => by simpa [ho, Op.operands] using hx) hc
    exact ⟨.func f #[] (caps.toList.map a.eval).toArray, by simp [execOp, ho, Instr.makeFunc, map_list caps], _, rfl, h1⟩

theorem ok_extract {x : Operand} {k : Nat} {ps : List Pr} {p : Pr} (ho : o.op = .extract x k) (hx : VL E x (tup ps)) (hp : ps[k]? = some p) : OpOK P I o E p :=
  OpOK.same fun M w a he _ => by
    obtain ⟨cs, h1, h2⟩ := hx.ev he (by simp [ho, Op.operands])
    obtain ⟨v, hv, hh⟩ := h2.at_ k p hp
    exact ⟨v, by simp [execOp, ho, h1, Instr.extract, hv], hh⟩

/-! ### Calls -/

theorem run_callFunc {f : FuncId} (h : Entry P f) (args : Array Value) (w : World) : (callFunc f args).run P w = .ok (.enter f args) w := by
  obtain ⟨g, h1, h2, h3⟩ := h
  have h2' : g.name ≠ "runtime.NumGoroutine" := by simpa using h2
  have h3' : ¬ g.body = none := by intro hh; rw [hh] at h3; cases h3
  simp [callFunc, h1, h2', h3']

theorem ok_call {f : FuncId} {xs : Array Operand} {ts : Array TypeId} {ps : List Pr} {res : Pr} (ho : o.op = .call { callee := .value (.func f), args := xs, argTypes := ts }) (hf : Fun P f ps res) (hv : Vals E xs.toList ps) : OpOK P I o E res := by
  intro M w a he hI
  have h1 := Vals.evalFor (o := o) he (xs := xs.toList) (fun x hx => by simp [ho, Op.operands, Call.operands]; exact .inr (by simpa using hx)) hv
  have hrun : (execOp a.eval o).run P w = .ok (.enter f (xs.toList.map a.eval).toArray) w := by
    simp [execOp, ho, resolve, Deferred.ofValue, Act.eval, invoke, run_callFunc hf.1, map_list xs]
  rw [hrun]
  exact ⟨Below.refl _ _, hf.2 M w _ (I.bd _ _ hI) h1⟩

theorem ok_callc {α : Type} {dom : α → List Pr} {res : α → Pr} (x : α) {f : Operand} {xs : Array Operand} {ts : Array TypeId} (ho : o.op = .call { callee := .value f, args := xs, argTypes := ts }) (hf : VL E f (clo P dom res)) (hv : Vals E xs.toList (dom x)) : OpOK P I o E (res x) := by
  intro M w a he hI
  have h1 := Vals.evalFor (o := o) he (xs := xs.toList) (fun x hx => by simp [ho, Op.operands, Call.operands]; exact .inr (by simpa using hx)) hv
  obtain ⟨g, caps, h2, h3, h4⟩ := hf.ev he (by simp [ho, Op.operands, Call.operands])
  have hrun : (execOp a.eval o).run P w = .ok (.enter g ((xs.toList.map a.eval).toArray ++ caps)) w := by
    simp [execOp, ho, resolve, Deferred.ofValue, h2, invoke, run_callFunc h3, map_list xs]
  rw [hrun]
  exact ⟨Below.refl _ _, h4 M w (Ext.refl _ _) (I.bd _ _ hI) x _ h1⟩

end
end Cp
