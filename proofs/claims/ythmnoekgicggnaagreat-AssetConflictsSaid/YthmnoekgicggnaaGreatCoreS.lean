/-
  Texts: length, bytes, order; values of arrays; structs compared.
-/
import Derived.Test.YthmnoekgicggnaaGreatCoreR
import Derived.Lib.ConvBytes
import Derived.Lib.Bytealg
import Derived.Laws.StructEq
import Derived.Laws.Externs
import Derived.Lib.AtoiErrMem
namespace Cp
open Go Go.RowKit Go.Great

/-- This text. -/
abbrev str (l : List UInt8) : Pr := is (.string ⟨l.toArray⟩)
theorem str_toList (l : List UInt8) : (ByteArray.mk l.toArray).toList = l := by rw [ByteArray.toList_eq]
theorem str_size (l : List UInt8) : (ByteArray.mk l.toArray).size = l.length := rfl
theorem str_inj {a b : List UInt8} (h : (⟨a.toArray⟩ : ByteArray) = ⟨b.toArray⟩) : a = b := by
  have h2 : a.toArray = b.toArray := congrArg ByteArray.data h
  simpa using h2
theorem str_eq {a b : List UInt8} (h : a = b) : Pr.le (str a) (str b) := Pr.le_of_eq (by rw [h])
theorem str_of (s : ByteArray) : str s.data.toList = is (.string s) := rfl

section
variable {P : Program} {E : Env} {I : Asn} {o : Oper}
theorem ok_eqs {t u : TypeId} {x y : Operand} {a b : List UInt8} (ho : o.op = .binOp .eql t x y u) (hx : VL E x (str a)) (hy : VL E y (str b)) : OpOK P I o E (bool (decide (a = b))) :=
  OpOK.same fun M w ac he _ => by
    have h1 : ac.eval x = _ := hx.ev he (by simp [ho, Op.operands])
    have h2 : ac.eval y = _ := hy.ev he (by simp [ho, Op.operands])
    refine ⟨_, by simp [execOp, ho, h1, h2, eqGuard, binOp, Op.stringOp, str_toList]; rfl, ?_⟩
    show Value.bool _ = Value.bool _
    congr 1
    rw [Bool.eq_iff_iff]; simp
theorem ok_nes {t u : TypeId} {x y : Operand} {a b : List UInt8} (ho : o.op = .binOp .neq t x y u) (hx : VL E x (str a)) (hy : VL E y (str b)) : OpOK P I o E (bool (!decide (a = b))) :=
  OpOK.same fun M w ac he _ => by
    have h1 : ac.eval x = _ := hx.ev he (by simp [ho, Op.operands])
    have h2 : ac.eval y = _ := hy.ev he (by simp [ho, Op.operands])
    refine ⟨_, by simp [execOp, ho, h1, h2, eqGuard, binOp, Op.stringOp, str_toList]; rfl, ?_⟩
    show Value.bool _ = Value.bool _
    congr 1
    rw [Bool.eq_iff_iff]; simp

/-! ### The order of texts -/
theorem cmp_less : ∀ (a b : List UInt8), Op.bytesLess a b = decide (Lib.compareBytes a b = -1)
  | _, [] => by cases ‹List UInt8› <;> simp [Op.bytesLess, Lib.compareBytes]
  | [], _ :: _ => by simp [Op.bytesLess, Lib.compareBytes]
  | a :: x, b :: y => by
    rw [Op.bytesLess, cmp_less x y, Lib.compareBytes]
    by_cases h1 : a < b
    · simp [h1]
    · by_cases h2 : b < a
      · have h3 : a ≠ b := fun e => by subst e; exact h1 h2
        simp [h1, h2, h3]
      · have h3 : a = b := UInt8.le_antisymm (UInt8.not_lt.1 h2) (UInt8.not_lt.1 h1)
        simp [h1, h2, h3]
theorem cmp_zero : ∀ (a b : List UInt8), Lib.compareBytes a b = 0 ↔ a = b
  | [], [] => by simp [Lib.compareBytes]
  | [], _ :: _ => by simp [Lib.compareBytes]
  | _ :: _, [] => by simp [Lib.compareBytes]
  | a :: x, b :: y => by
    rw [Lib.compareBytes]
    by_cases h1 : a < b
    · simp only [h1, if_true]
      constructor
      · intro h; cases h
      · intro h; injection h with e _; subst e; exact absurd h1 (UInt8.lt_irrefl _)
    · by_cases h2 : b < a
      · simp only [h1, h2, if_true, if_false]
        constructor
        · intro h; cases h
        · intro h; injection h with e _; subst e; exact absurd h2 (UInt8.lt_irrefl _)
      · have h3 : a = b := UInt8.le_antisymm (UInt8.not_lt.1 h2) (UInt8.not_lt.1 h1)
        rw [if_neg h1, if_neg h2, cmp_zero x y]; simp [h3]
theorem cmp_swap : ∀ (a b : List UInt8), Lib.compareBytes b a = - Lib.compareBytes a b
  | [], [] => rfl
  | [], _ :: _ => rfl
  | _ :: _, [] => rfl
  | a :: x, b :: y => by
    rw [Lib.compareBytes, Lib.compareBytes, cmp_swap x y]
    by_cases h1 : a < b
    · have h2 : ¬ b < a := fun h => UInt8.lt_asymm h1 h
      simp [h1, h2]
    · by_cases h2 : b < a <;> simp [h1, h2]
theorem cmp_in : ∀ (a b : List UInt8), Lib.compareBytes a b = -1 ∨ Lib.compareBytes a b = 0 ∨ Lib.compareBytes a b = 1
  | [], [] => by simp [Lib.compareBytes]
  | [], _ :: _ => by simp [Lib.compareBytes]
  | _ :: _, [] => by simp [Lib.compareBytes]
  | a :: x, b :: y => by
    rw [Lib.compareBytes]
    split
    · simp
    · split
      · simp
      · exact cmp_in x y
theorem ok_lts {t u : TypeId} {x y : Operand} {a b : List UInt8} (ho : o.op = .binOp .lss t x y u) (hx : VL E x (str a)) (hy : VL E y (str b)) : OpOK P I o E (bool (decide (Lib.compareBytes a b = -1))) :=
  OpOK.same fun M w ac he _ => by
    have h1 : ac.eval x = _ := hx.ev he (by simp [ho, Op.operands])
    have h2 : ac.eval y = _ := hy.ev he (by simp [ho, Op.operands])
    exact ⟨_, by simp [execOp, ho, h1, h2, eqGuard, binOp, Op.stringOp, str_toList, cmp_less], rfl⟩
theorem ok_gts {t u : TypeId} {x y : Operand} {a b : List UInt8} (ho : o.op = .binOp .gtr t x y u) (hx : VL E x (str a)) (hy : VL E y (str b)) : OpOK P I o E (bool (decide (Lib.compareBytes a b = 1))) :=
  OpOK.same fun M w ac he _ => by
    have h1 : ac.eval x = _ := hx.ev he (by simp [ho, Op.operands])
    have h2 : ac.eval y = _ := hy.ev he (by simp [ho, Op.operands])
    refine ⟨_, by simp [execOp, ho, h1, h2, eqGuard, binOp, Op.stringOp, str_toList, cmp_less]; rfl, ?_⟩
    show Value.bool _ = Value.bool _
    congr 1
    rw [Bool.eq_iff_iff]
    have h3 := cmp_zero a b
    rcases cmp_in a b with h | h | h
    · simp [h]
    · have h4 := h3.1 h
      rw [h]; simp [h4]
    · have : a ≠ b := fun e => by have := h3.2 e; omega
      simp [h, this]
theorem ok_ges {t u : TypeId} {x y : Operand} {a b : List UInt8} (ho : o.op = .binOp .geq t x y u) (hx : VL E x (str a)) (hy : VL E y (str b)) : OpOK P I o E (bool (!decide (Lib.compareBytes a b = -1))) :=
  OpOK.same fun M w ac he _ => by
    have h1 : ac.eval x = _ := hx.ev he (by simp [ho, Op.operands])
    have h2 : ac.eval y = _ := hy.ev he (by simp [ho, Op.operands])
    exact ⟨_, by simp [execOp, ho, h1, h2, eqGuard, binOp, Op.stringOp, str_toList, cmp_less], rfl⟩
theorem ok_cmpstr {f : FuncId} {fn : Func} {x y : Operand} {ts : Array TypeId} {a b : List UInt8} (ho : o.op = .call { callee := .value (.func f), args := #[x, y], argTypes := ts }) (hf : P.funcs[f]? = some fn) (hname : (fn.name == "runtime.NumGoroutine") = false)
    (hb : fn.body.isNone = true) (hn : Extern.findNext fn = none) (hex : Extern.find fn = some Extern.BytealgCompare.compare) (hx : VL E x (str a)) (hy : VL E y (str b)) : OpOK P I o E (int (Lib.compareBytes a b)) :=
  OpOK.same fun M w ac he _ => by
    have h1 : ac.eval x = _ := hx.ev he (by simp [ho, Op.operands, Call.operands])
    have h2 : ac.eval y = _ := hy.ev he (by simp [ho, Op.operands, Call.operands])
    have h3 : ac.eval (.func f) = .func (.func f) #[] #[] := rfl
    refine ⟨_, ?_, rfl⟩
    have hrun : (execOp ac.eval o).run P w = (callFunc f #[ac.eval x, ac.eval y]).run P w := by simp [execOp, ho, resolve, Deferred.ofValue, invoke, h3]
    rw [hrun, h1, h2, run_callFunc_extern hf hname hb hn hex, Lib.run_compareString]
    rfl

/-! ### Length and bytes -/
theorem ok_lens {t : TypeId} {x : Operand} {a : List UInt8} (ho : o.op = .call { callee := .builtin .len, args := #[x], argTypes := #[t] }) (ht : P.underlying t = some .string) (hx : VL E x (str a)) : OpOK P I o E (int ((a.length : Nat) : Int)) :=
  OpOK.same fun M w ac he _ => by
    have h1 : ac.eval x = _ := hx.ev he (by simp [ho, Op.operands, Call.operands])
    exact ⟨.int .i64 a.length, by simp [execOp, ho, resolve, invoke, builtin, Builtin.len_, h1, run_underlying ht, goInt, str_size], rfl⟩
theorem ok_sidx {t : TypeId} {x y : Operand} {k : IntKind} {a : List UInt8} {i : Int} {c : UInt8} (ho : o.op = .index t x y) (ht : P.underlying t = some .string) (hx : VL E x (str a)) (hy : VL E y (is (.int k i))) (h0 : 0 ≤ i) (hc : a[i.toNat]? = some c) : OpOK P I o E (is (.int .u8 c.toNat)) :=
  OpOK.same fun M w ac he _ => by
    have h1 : ac.eval x = _ := hx.ev he (by simp [ho, Op.operands])
    have h2 : ac.eval y = _ := hy.ev he (by simp [ho, Op.operands])
    refine ⟨_, ?_, rfl⟩
    have hlt : i.toNat < a.length := by rcases Nat.lt_or_ge i.toNat a.length with h | h; exact h; rw [List.getElem?_eq_none h] at hc; cases hc
    have h3 : (ByteArray.mk a.toArray)[i.toNat]? = some c := by
      rw [getElem?_pos (ByteArray.mk a.toArray) i.toNat (by rw [str_size]; exact hlt)]
      rw [List.getElem?_eq_getElem hlt] at hc
      simp only [Option.some.injEq] at hc
      rw [← hc]
      rfl
    simp [execOp, ho, h1, h2, Instr.index, asIntOf, run_underlying ht, h0, h3]
theorem ok_bytes {s t e : TypeId} {x : Operand} {a : List UInt8} (ho : o.op = .convert s t x) (hs : P.underlying s = some .string) (ht : P.underlying t = some (.slice e)) (he : P.underlying e = some (.int .u8)) (hx : VL E x (str a)) (hm : a.length ≤ maxLen) : OpOK P I o E (slice 1 (a.map fun c => [is (.int .u8 c.toNat)])) :=
  OpOK.val fun M w ac hev hI => by
    have h1 : ac.eval x = _ := hx.ev hev (by simp [ho, Op.operands])
    have hrun := Lib.run_convert_string_bytes (P := P) w s t e ⟨a.toArray⟩ hs ht he
    have hcap := grownCap_ge w a.length 0 e
    have hcm := grownCap_le_maxLen w a.length 0 e hm
    refine ⟨.slice (some ⟨w.heap.size, 0, none⟩) a.length (grownCap w a.length 0 e), Lib.bytesWorld w e ⟨a.toArray⟩, by simp [execOp, ho, h1, hrun]; exact ⟨rfl, rfl⟩, ?_, ?_⟩
    · have hbd : Bd M w := I.bd _ _ hI
      refine ⟨_, grownCap w a.length 0 e, by rw [List.length_map], by rw [List.length_map]; exact hcap, hcm, (fun h => by cases h), fun i row hr => ?_⟩
      rw [List.getElem?_map] at hr
      cases hc : a[i]? with
      | none => rw [hc] at hr; cases hr
      | some c =>
        rw [hc] at hr
        simp only [Option.map_some, Option.some.injEq] at hr
        subst hr
        have hil : i < a.length := by rcases Nat.lt_or_ge i a.length with h | h; exact h; rw [List.getElem?_eq_none h] at hc; cases hc
        refine ⟨rfl, _, rfl, fun j p hp => ?_⟩
        have hj : j = 0 := by
          rcases Nat.eq_zero_or_pos j with h | h
          · exact h
          · rw [List.getElem?_eq_none (by simp; omega)] at hp; cases hp
        subst hj
        simp only [List.getElem?_cons_zero, Option.some.injEq] at hp
        subst hp
        refine ⟨.int .u8 c.toNat, ?_, fun hmm => ?_, rfl, rfl⟩
        · rw [show Addr.add ⟨w.heap.size, 0, none⟩ (i * 1 + 0) = ⟨w.heap.size, i, none⟩ by unfold Addr.add; split <;> simp_all]
          rw [Lib.bytesWorld_cell w e ⟨a.toArray⟩ i (by rw [str_size]; exact hil)]
          have : ([] ++ a).getD i 0 = c := by simp [hc]
          simp [hc]
        · have := hbd _ _ hmm; simp at this
    · exact Lib.bytesWorld_below w e ⟨a.toArray⟩

theorem sidx_at {a : List UInt8} {k : Nat} {c : UInt8} (h : a[k]? = some c) : a[((k : Nat) : Int).toNat]? = some c := h

/-! ### Values of arrays -/
theorem ok_index {t e : TypeId} {x y : Operand} {k : IntKind} {i : Int} {len sz : Nat} {ps qs : List Pr} (ho : o.op = .index t x y) (ht : P.underlying t = some (.array len e)) (he : aggB P e = true) (hz : sizeB P e = some sz) (hx : VL E x (agg ps)) (hy : VL E y (is (.int k i))) (h0 : 0 ≤ i) (hl : i < len)
    (hq : (ps.drop (i.toNat * sz)).take sz = qs) : OpOK P I o E (agg qs) :=
  OpOK.same fun M w ac hev _ => by
    obtain ⟨cs, h1, ho1, h2⟩ := hx.ev hev (by simp [ho, Op.operands])
    have h3 : ac.eval y = _ := hy.ev hev (by simp [ho, Op.operands])
    refine ⟨.agg (cs.toArray.extract (i.toNat * sz) (i.toNat * sz + sz)), ?_, (cs.drop (i.toNat * sz)).take sz, ?_, fun c hc => ho1 c (List.mem_of_mem_drop (List.mem_of_mem_take hc)), by rw [← hq]; exact (h2.drop _).take _⟩
    · simp [execOp, ho, h1, h3, Instr.index, asIntOf, run_underlying ht, h0, hl, run_size hz, part, run_isAgg_agg he]
    · congr 1
      apply Array.toList_inj.1
      simp [List.extract, Nat.add_sub_cancel_left]

/-! ### Structs compared -/
theorem agg_is {M : Av} {w : World} {v : Value} {xs : List Value} (h : (agg (xs.map is)).h M w v) : v = .agg xs.toArray := by
  obtain ⟨cs, rfl, ho, h2⟩ := h
  congr 1
  have : cs = xs := by
    clear ho
    induction xs generalizing cs with
    | nil => cases cs with
      | nil => rfl
      | cons c cs => exact h2.elim
    | cons x xs ih => cases cs with
      | nil => exact h2.elim
      | cons c cs => rw [ih cs h2.2, show c = x from h2.1]
  rw [this]
theorem ok_eqagg {t u : TypeId} {x y : Operand} {r : Bool} (xs ys : List Value) (ho : o.op = .binOp .eql t x y u) (hx : VL E x (agg (xs.map is))) (hy : VL E y (agg (ys.map is))) (hg : P.eqGuardType P.depth t = false) (hr : ∀ w, (Op.equal t (.agg xs.toArray) (.agg ys.toArray)).run P w = .ok r w) : OpOK P I o E (bool r) :=
  OpOK.same fun M w ac he _ => by
    have h1 := agg_is (hx.ev he (by simp [ho, Op.operands]))
    have h2 := agg_is (hy.ev he (by simp [ho, Op.operands]))
    exact ⟨_, by simp [execOp, ho, h1, h2, eqGuard, hg, binOp, hr w], rfl⟩
theorem ok_neagg {t u : TypeId} {x y : Operand} {r : Bool} (xs ys : List Value) (ho : o.op = .binOp .neq t x y u) (hx : VL E x (agg (xs.map is))) (hy : VL E y (agg (ys.map is))) (hg : P.eqGuardType P.depth t = false) (hr : ∀ w, (Op.equal t (.agg xs.toArray) (.agg ys.toArray)).run P w = .ok r w) : OpOK P I o E (bool (!r)) :=
  OpOK.same fun M w ac he _ => by
    have h1 := agg_is (hx.ev he (by simp [ho, Op.operands]))
    have h2 := agg_is (hy.ev he (by simp [ho, Op.operands]))
    exact ⟨_, by simp [execOp, ho, h1, h2, eqGuard, hg, binOp, hr w], rfl⟩

theorem eqS {P : Program} {w : World} {d : Nat} {t : TypeId} {fs : Array Field} {xs ys : Array Value} {r : Bool} (ht : P.underlying t = some (.struct fs)) (hp : P.stoodInHeld t = false) (h : (Op.eqFields d xs ys fs.toList).run P w = .ok r w) : (Op.equalIn (d + 1) t (.agg xs) (.agg ys)).run P w = .ok r w := by
  have hf : P.fieldsOf t = fs := by unfold Program.fieldsOf; rw [ht]
  rw [run_equalIn_struct w d t xs ys (by rw [hf]; exact ht) hp, hf]; exact h
theorem eqF_nil {P : Program} {w : World} {d : Nat} {xs ys : Array Value} : (Op.eqFields d xs ys []).run P w = .ok true w := by simp [Op.eqFields]
theorem eqF_cons {P : Program} {w : World} {d : Nat} {xs ys : Array Value} {f : Field} {fs : List Field} {vx vy : Value} {r q : Bool} (hn : f.name ≠ "_") (ha : (part f.type xs f.offset).run P w = .ok vx w) (hb : (part f.type ys f.offset).run P w = .ok vy w)
    (he : (Op.equalIn d f.type vx vy).run P w = .ok r w) (hr : (Op.eqFields d xs ys fs).run P w = .ok q w) : (Op.eqFields d xs ys (f :: fs)).run P w = .ok (r && q) w := by
  simp only [Op.eqFields, hn, ne_eq, not_false_eq_true, if_true, Sem.run_bind, ha, hb, he, Result.andThen_ok]
  cases r
  · simp
  · simpa using hr
theorem part_leaf {P : Program} {w : World} {t : TypeId} {cs : Array Value} {off : Nat} {v : Value} (h1 : oneB P t = true) (hv : cs[off]? = some v) : (part t cs off).run P w = .ok v w := by
  simp [part, run_isAgg_one h1, hv]
theorem part_agg {P : Program} {w : World} {t : TypeId} {cs : Array Value} {off m : Nat} {vs : Array Value} (h1 : aggB P t = true) (hz : sizeB P t = some m) (hv : cs.extract off (off + m) = vs) : (part t cs off).run P w = .ok (.agg vs) w := by
  simp [part, run_isAgg_agg h1, run_size hz, hv]
theorem eq_intL {P : Program} {w : World} {d : Nat} {t : TypeId} {k : IntKind} {a b : Int} (h : P.underlying t = some (.int k)) : (Op.equalIn (d + 1) t (.int k a) (.int k b)).run P w = .ok (decide (a = b)) w := by
  rw [run_equalIn_int w d t k k a b h]; rfl
theorem eq_boolL {P : Program} {w : World} {d : Nat} {t : TypeId} {a b : Bool} (h : P.underlying t = some .bool) : (Op.equalIn (d + 1) t (.bool a) (.bool b)).run P w = .ok (decide (a = b)) w := by
  rw [run_equalIn_bool w d t a b h]; cases a <;> cases b <;> rfl
theorem eq_strL {P : Program} {w : World} {d : Nat} {t : TypeId} {a b : List UInt8} (h : P.underlying t = some .string) : (Op.equalIn (d + 1) t (.string ⟨a.toArray⟩) (.string ⟨b.toArray⟩)).run P w = .ok (decide (a = b)) w := by
  rw [run_equalIn_string w d t _ _ h, str_toList, str_toList]
  congr 1
  rw [Bool.eq_iff_iff]; simp
end
end Cp
