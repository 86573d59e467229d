/-
  A slice of our own that is laid into a cell of ours, in a region of any order; operands of which only some one is known.
-/
import Derived.Test.YthmnoekgicggnaaGreatCoreO
namespace Cp
open Go Go.RowKit Go.Great

section
variable {P : Program} {n : Nat} {E : Env} {M0 : Av} {w0 : World} {S : Nat → Prop} {rs : List SR} {o : Oper}
theorem ef_storeS {t : TypeId} {x : Operand} {q : Tmp} {j : Nat} {new : Bool} {b off : Nat} {T : TypeId} {ps : List Pr} {p : Pr} [One p] (hg : o.guard = none) (hd : o.dst = none) (ho : o.op = .store t x (.tmp q)) (hx : VL E x (ptr b off)) (hy : E.lookup q = some p)
    (hz : sizeB P t = some 1) (hl : off + 1 ≤ ps.length) : OpEf P M0 w0 S n j (SR.c (cellsRes new b T ps)) ⟨q, fun v => cellsRes new b T (ps.take off ++ [andIs v p] ++ ps.drop (off + 1))⟩ o E any := by
  refine ⟨hg, fun M w a rs hsz he hI hj => ?_⟩
  have h1 : a.eval x = .pointer (some ⟨b, off, none⟩) := hx.ev he (by simp [ho, Op.operands])
  have hv : VL E (.tmp q) p := ⟨_, hy, Pr.le_refl _⟩
  have hp := hv.ev he (show (Operand.tmp q) ∈ o.op.operands.toList by simp [ho, Op.operands])
  obtain ⟨h2, h3⟩ := (VL.le hv (one_cellsP p)).ev he (show (Operand.tmp q) ∈ o.op.operands.toList by simp [ho, Op.operands])
  obtain ⟨⟨_, cs, h4, h5, h6⟩, _⟩ := hI.hold _ (List.mem_of_getElem? hj)
  have h5l := h5.length
  have h2l := h2.length
  have hone : (a.eval (.tmp q)).cells = #[a.eval (.tmp q)] := (One.one (p := p) M w _ hp).1
  have h2' : HL M w [andIs (a.eval (.tmp q)) p] (a.eval (.tmp q)).cells.toList := by rw [hone]; exact ⟨⟨rfl, hp⟩, trivial⟩
  have hcells : (a.eval (.tmp q)).cells.size = 1 := by rw [hone]; rfl
  have hrun : (storeCells ⟨b, off, none⟩ (a.eval (.tmp q)).cells.toList 0).run P w = .ok () (w.setRow b (cs.take off ++ (a.eval (.tmp q)).cells.toList ++ cs.drop (off + 1)).toArray) := by
    have := run_storeCells_at (P := P) b off T (a.eval (.tmp q)).cells.toList 0 cs.toArray w h4 (by simp [hcells]; omega) h3
    simpa [hcells] using this
  have hrun2 : (execOp a.eval o).run P w = .ok .skip (w.setRow b (cs.take off ++ (a.eval (.tmp q)).cells.toList ++ cs.drop (off + 1)).toArray) := by
    simp [execOp, ho, h1, Instr.storeAt, Instr.sureAddr, storeVar, run_size hz, hcells, hrun]
  rw [hrun2]
  obtain ⟨h7, h8⟩ := HpH.write (qs := ps.take off ++ [andIs (a.eval (.tmp q)) p] ++ ps.drop (off + 1)) (cs := cs.take off ++ (a.eval (.tmp q)).cells.toList ++ cs.drop (off + 1)) hI hj ((((h5.take off).app h2')).app (h5.drop (off + 1)))
    (fun c hc => by
      simp only [List.mem_append] at hc
      rcases hc with (hc | hc) | hc
      · exact h6 c (List.mem_of_mem_take hc)
      · exact h3 c hc
      · exact h6 c (List.mem_of_mem_drop hc))
  refine ⟨M, trivial, h8, ?_⟩
  have hput : SR.at_ (a.put o.dst undef) ⟨q, fun v => cellsRes new b T (ps.take off ++ [andIs v p] ++ ps.drop (off + 1))⟩ = cellsRes new b T (ps.take off ++ [andIs (a.eval (.tmp q)) p] ++ ps.drop (off + 1)) := by rw [hd]; rfl
  rw [hput]; exact h7

theorem set_at {j s : Nat} {f : Value → Res} (hR : rs[j]? = some ⟨s, f⟩) (a : Act) : (rs.set j (SR.c (f (a.tmps.getD s undef)))).map (·.at_ a) = rs.map (·.at_ a) := by
  rw [List.map_set]
  apply List.ext_getElem?
  intro i
  rw [List.getElem?_set]
  by_cases hij : j = i
  · subst hij
    rw [if_pos rfl]
    split
    · rw [List.getElem?_map, hR]; rfl
    · rename_i hge
      rw [List.getElem?_eq_none (by omega)]
  · rw [if_neg hij]
theorem FinX.open2 {Q : Exit → Act → World → Prop} (j i s : Nat) {f g : Value → Res} {p : Pr} (hR : rs[j]? = some ⟨s, f⟩) (hR' : rs[i]? = some ⟨s, g⟩) (hij : j ≠ i) (hs : E.lookup s = some p) (k : ∀ v, FinX n M0 w0 S ((s, andIs v p) :: E) ((rs.set j (SR.c (f v))).set i (SR.c (g v))) Q) : FinX n M0 w0 S E rs Q := by
  rintro a w ⟨M, h1, h2, h3, h4⟩
  refine k (a.tmps.getD s undef) a w ⟨M, h1, h2, ?_, ?_⟩
  · intro t q hq
    simp only [List.lookup] at hq
    by_cases ht : t = s
    · subst ht; simp only [beq_self_eq_true, Option.some.injEq] at hq; subst hq; exact ⟨rfl, h3 t p hs⟩
    · rw [show (t == s) = false by simpa using ht] at hq; exact h3 t q hq
  · rw [set_at (rs := rs.set j (SR.c (f (a.tmps.getD s undef)))) (j := i) (s := s) (f := g) (by rw [List.getElem?_set, if_neg hij]; exact hR') a, set_at hR a]; exact h4
end

section
variable {P : Program} {n : Nat} {E : Env} {M0 : Av} {w0 : World} {S : Nat → Prop} {rs : List Res}
theorem St.reC (j : Nat) {new : Bool} {b : Nat} {T : TypeId} {ps qs : List Pr} (hi : rs[j]? = some (cellsRes new b T ps)) (h : LeL ps qs) {a : Act} {w : World} (hs : St n E (Hp M0 w0 S rs) a w) : St n E (Hp M0 w0 S (rs.set j (cellsRes new b T qs))) a w := by
  obtain ⟨M, h1, h2, h3, h4⟩ := hs
  have h4 : HpH M0 w0 S rs M w := h4
  obtain ⟨h5, cs, h6, h7, h8⟩ := (h4.hold _ (List.mem_of_getElem? hi)).1
  exact ⟨M, h1, h2, h3, h4.swap1 hi rfl rfl ⟨h5, cs, h6, h.hl h7, h8⟩⟩
theorem Tr.reC {Q : Exit → Act → World → Prop} {c : Code} (j : Nat) {new : Bool} {b : Nat} {T : TypeId} {ps : List Pr} (qs : List Pr) (hi : rs[j]? = some (cellsRes new b T ps)) (h : LeL ps qs) (k : Tr P n E (Hp M0 w0 S (rs.set j (cellsRes new b T qs))) c Q) : Tr P n E (Hp M0 w0 S rs) c Q :=
  Tr.conv (fun _ _ hs => hs.reC j hi h) k
theorem Fin.reC {Q : Exit → Act → World → Prop} {e : Exit} (j : Nat) {new : Bool} {b : Nat} {T : TypeId} {ps : List Pr} (qs : List Pr) (hi : rs[j]? = some (cellsRes new b T ps)) (h : LeL ps qs) (k : Fin n E (Hp M0 w0 S (rs.set j (cellsRes new b T qs))) Q e) : Fin n E (Hp M0 w0 S rs) Q e :=
  Fin.conv (fun _ _ hs => hs.reC j hi h) k
end
end Cp
