/-
  More operations: conversions between integers, truth values compared.
-/
import Derived.Test.YthmnoekgicggnaaGreatCoreK
namespace Cp
open Go Go.RowKit Go.Great

section
variable {P : Program} {E : Env} {I : Asn} {o : Oper}
theorem ok_eqb {t u : TypeId} {x y : Operand} {b c : Bool} (ho : o.op = .binOp .eql t x y u) (ht : P.underlying t = some .bool) (hx : VL E x (bool b)) (hy : VL E y (bool c)) : OpOK P I o E (bool (b == c)) :=
  OpOK.same fun M w a he _ => by
    have h1 : a.eval x = .bool b := hx.ev he (by simp [ho, Op.operands])
    have h2 : a.eval y = .bool c := hy.ev he (by simp [ho, Op.operands])
    exact ⟨_, by simp [execOp, ho, h1, h2, eqGuard, binOp, Op.equal, Op.maxDepth, run_equalIn_bool, ht], rfl⟩
theorem ok_neb {t u : TypeId} {x y : Operand} {b c : Bool} (ho : o.op = .binOp .neq t x y u) (ht : P.underlying t = some .bool) (hx : VL E x (bool b)) (hy : VL E y (bool c)) : OpOK P I o E (bool (b != c)) :=
  OpOK.same fun M w a he _ => by
    have h1 : a.eval x = .bool b := hx.ev he (by simp [ho, Op.operands])
    have h2 : a.eval y = .bool c := hy.ev he (by simp [ho, Op.operands])
    exact ⟨_, by simp [execOp, ho, h1, h2, eqGuard, binOp, Op.equal, Op.maxDepth, run_equalIn_bool, ht]; cases b <;> cases c <;> rfl, rfl⟩
theorem ok_conv {s t : TypeId} {x : Operand} {k k' : IntKind} {n : Int} (ho : o.op = .convert s t x) (hs : P.underlying s = some (.int k)) (ht : P.underlying t = some (.int k')) (hx : VL E x (is (.int k n))) : OpOK P I o E (is (.int k' (k'.wrap n))) :=
  OpOK.same fun M w a he _ => by
    have h1 : a.eval x = .int k n := hx.ev he (by simp [ho, Op.operands])
    refine ⟨_, ?_, rfl⟩
    simp [execOp, ho, h1, convert, run_underlying hs, run_underlying ht, Conv.intToInt, Sem.run_bind]
theorem ok_convI {s t : TypeId} {x : Operand} {k : IntKind} {n : Int} (ho : o.op = .convert s t x) (hs : P.underlying s = some (.int k)) (ht : P.underlying t = some (.int .i64)) (hx : VL E x (is (.int k n))) (hn : InI n) : OpOK P I o E (int n) := by
  have := ok_conv (P := P) (I := I) ho hs ht hx
  rwa [wrap_in hn] at this
end
end Cp
