/-
  Functions without results; functions that only read, called on slices whose elements are ours; slices of ours that may be empty.
-/
import Derived.Test.YthmnoekgicggnaaGreatCoreT
namespace Cp
open Go Go.RowKit Go.Great

abbrev unit_ : Pr := is (.tuple #[])
section
variable {P : Program} {n : Nat} {E : Env} {M0 : Av} {w0 : World} {S : Nat → Prop} {rs : List Res} {o : Oper} {g : Func} {M1 : Av} {w1 : World}
theorem results0 {g : Func} {a : Act} {w : World} (hr : g.results = #[]) : (results g a.tmps).run P w = .ok (.tuple #[]) w := by
  rw [results_rv, hr]; simp [Sem.run_bind]
theorem Fin.ret0 (hr : g.results = #[]) : Fin n E (Hp M0 w0 noS rs) (bodyPost P g (Back M0 w0 unit_)) .normal := by
  rintro a w ⟨M, _, hd, he, hi⟩
  obtain ⟨h1, h2⟩ := OutW.bse M0 w0 M w hi
  exact ⟨hd, _, results0 hr, _, rfl, rfl, h2⟩
theorem Fin.ret0r (hr : g.results = #[]) : Fin n E (Hp M0 w0 noS rs) (bodyPost P g (Back M0 w0 unit_)) .ret := by
  rintro a w ⟨M, _, hd, he, hi⟩
  obtain ⟨h1, h2⟩ := OutW.bse M0 w0 M w hi
  exact ⟨hd, _, results0 hr, _, rfl, rfl, h2⟩
theorem Fin.retM0 {r : Res} (hr : g.results = #[]) : Fin n E (Hp M0 w0 S (r :: extRes M1 w1 :: rs)) (bodyPost P g (BackM M0 w0 S rs M1 w1 unit_ (fun _ => r))) .normal := by
  rintro a w ⟨M, _, hd, he, hi⟩
  obtain ⟨h1, h2⟩ := outM hi
  exact ⟨hd, _, results0 hr, _, M, rfl, rfl, h1, h2⟩

/-- The operands, where one slice may be of ours. -/
def ValsO (E : Env) (v0 : Value) (q0 : Pr) : List Operand → List Pr → Prop
  | [], [] => True
  | x :: xs, p :: ps => (VL E x p ∨ (VL E x (is v0) ∧ Pr.le (andIs v0 q0) p)) ∧ ValsO E v0 q0 xs ps
  | _, _ => False
theorem ValsO.ev {M M' : Av} {w : World} {a : Act} {v0 : Value} {q0 : Pr} (he : EnvFor M w E o a) (hx : Ext M w M' w) (h0 : q0.h M' w v0) : ∀ {xs : List Operand} {ps : List Pr}, (∀ x ∈ xs, x ∈ o.op.operands.toList) → ValsO E v0 q0 xs ps → HL M' w ps (xs.map a.eval)
  | [], [], _, _ => trivial
  | [], _ :: _, _, h => h.elim
  | _ :: _, [], _, h => h.elim
  | x :: xs, p :: ps, hm, h => by
    refine ⟨?_, ValsO.ev he hx h0 (fun y hy => hm y (List.mem_cons_of_mem _ hy)) h.2⟩
    rcases h.1 with h1 | ⟨h1, h2⟩
    · exact p.st _ _ _ _ _ hx (h1.ev he (hm x (by simp)))
    · have h3 : a.eval x = v0 := h1.ev he (hm x (by simp))
      exact h2 _ _ _ ⟨h3, by rw [h3]; exact h0⟩
/-- Memory is not read by this. -/
class Free (p : Pr) : Prop where
  free : ∀ M M' w v, p.h M w v → p.h M' w v
instance free_is (u : Value) : Free (is u) := ⟨fun _ _ _ _ h => h⟩
instance free_lens (m : Nat) : Free (lens m) := ⟨fun _ _ _ _ h => h⟩
/-- A function that only reads, on a slice whose elements are ours. -/
theorem ef_pure {f : FuncId} {xs : Array Operand} {ts : Array TypeId} {ps : List Pr} {res : Pr} [Free res] {j d b cap sz : Nat} {e : TypeId} (rows : List (List Pr)) {qs : List Pr} (hg : o.guard = none) (hd : o.dst = some d) (hn : d < n) (ho : o.op = .call { callee := .value (.func f), args := xs, argTypes := ts }) (hf : Fun P f ps res)
    (hl : ∀ r ∈ rows, r.length = sz) (hc : rows.length ≤ cap) (hm : cap ≤ maxLen) (hq : qs.length = (cap - rows.length) * sz)
    (hv : ValsO E (.slice (some ⟨b, 0, none⟩) rows.length cap) (slice sz rows) xs.toList ps) : OpEf P M0 w0 S n j (SR.c (cellsRes true b e (rows.flatten ++ qs))) (SR.c (cellsRes true b e (rows.flatten ++ qs))) o E res := by
  refine ⟨hg, fun M w a rs hsz he hI hj => ?_⟩
  have hj' : rs[j]? = some (cellsRes true b e (rows.flatten ++ qs)) := hj
  obtain ⟨M', hx, hI', hs⟩ := HpH.frz hI hj' hl hc hm hq
  have h1 := hv.ev (o := o) he hx hs (xs := xs.toList) (fun x hx => by simp [ho, Op.operands, Call.operands]; exact .inr (by simpa using hx))
  have hrun : (execOp a.eval o).run P w = .ok (.enter f (xs.toList.map a.eval).toArray) w := by
    simp [execOp, ho, resolve, Deferred.ofValue, Act.eval, invoke, run_callFunc hf.1, map_list xs]
  rw [hrun]
  refine (hf.2 M' w _ hI'.bd h1).mono ?_
  rintro e' w' ⟨v, rfl, h2, h3⟩
  refine ⟨v, M, rfl, Free.free _ _ _ _ h2, Ext.below h3, ?_⟩
  have hset : rs.set j (SR.at_ (a.put o.dst v) (SR.c (cellsRes true b e (rows.flatten ++ qs)))) = rs := by
    rw [show SR.at_ (a.put o.dst v) (SR.c (cellsRes true b e (rows.flatten ++ qs))) = cellsRes true b e (rows.flatten ++ qs) from at_c _ _]
    have hjl : j < rs.length := by rcases Nat.lt_or_ge j rs.length with h | h; exact h; rw [List.getElem?_eq_none h] at hj'; cases hj'
    rw [List.getElem?_eq_getElem hjl] at hj'
    simp only [Option.some.injEq] at hj'
    rw [← hj', List.set_getElem_self]
  rw [hset]
  exact (Hp M0 w0 S rs).st _ _ _ h3 hI
end
end Cp
