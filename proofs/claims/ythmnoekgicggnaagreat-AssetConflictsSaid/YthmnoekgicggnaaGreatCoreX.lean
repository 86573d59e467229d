/-
  Slices of ours as the first of two results.
-/
import Derived.Test.YthmnoekgicggnaaGreatCoreW
namespace Cp
open Go Go.RowKit Go.Great

section
variable {P : Program} {n : Nat} {E : Env} {M0 : Av} {w0 : World} {S : Nat → Prop} {rs : List Res} {o : Oper} {g : Func} {M1 : Av} {w1 : World}
/-- The first of a tuple. -/
def tupFst : Value → Value
  | .tuple xs => xs.getD 0 (.tuple #[])
  | v => v
theorem Fin.retT2 {t u : Tmp} {f : Value → Res} {a : Value} {p q p' q' : Pr} (hr : g.results = #[.tmp t, .tmp u]) (h : E.lookup t = some q) (hl : Pr.le q p) (ha : Pr.le q (is a)) (h' : E.lookup u = some q') (hl' : Pr.le q' p') :
    Fin n E (Hp M0 w0 S (f a :: extRes M1 w1 :: rs)) (bodyPost P g (BackM M0 w0 S rs M1 w1 (tup [p, p']) (fun v => f (tupFst v)))) .ret := by
  rintro x w ⟨M, _, hd, he, hi⟩
  obtain ⟨h1, h2⟩ := outM hi
  have hq := he _ _ h
  have hv := ha _ _ _ hq
  refine ⟨hd, _, results_two hr _ _, _, M, rfl, ⟨[_, _], rfl, hl _ _ _ hq, hl' _ _ _ (he _ _ h'), trivial⟩, h1, ?_⟩
  have : tupFst (.tuple #[x.tmps.getD t undef, x.tmps.getD u undef]) = a := hv
  show HpH M0 w0 S (f (tupFst (.tuple #[x.tmps.getD t undef, x.tmps.getD u undef])) :: rs) M w
  rw [this]; exact h2
theorem TO.openT {ops : Array Oper} {l : List Oper} {Q : Exit → Act → World → Prop} (s j : Nat) {v : Value} {f : Value → Res} {p : Pr} {ps : List Pr} (hs : E.lookup s = some (andIs v (tup (p :: ps)))) (hi : rs[j]? = some (f (tupFst v)))
    (k : ∀ a, TO P n ops l ((s, tup (andIs a p :: ps)) :: E) (Hp M0 w0 S (rs.set j (f a))) Q) : TO P n ops l E (Hp M0 w0 S rs) Q := by
  intro k0 hl a w hst
  have hset : rs.set j (f (tupFst v)) = rs := by
    have hjl : j < rs.length := by rcases Nat.lt_or_ge j rs.length with h | h; exact h; rw [List.getElem?_eq_none h] at hi; cases hi
    rw [List.getElem?_eq_getElem hjl] at hi
    simp only [Option.some.injEq] at hi
    rw [← hi, List.set_getElem_self]
  have hk := k (tupFst v)
  rw [hset] at hk
  refine hk k0 hl a w ?_
  obtain ⟨M, h1, h2, he, h4⟩ := hst
  refine ⟨M, h1, h2, fun s' q hq => ?_, h4⟩
  simp only [List.lookup] at hq
  split at hq
  · rename_i e1
    have : s' = s := by simpa using e1
    subst this
    simp only [Option.some.injEq] at hq
    subst hq
    obtain ⟨h5, cs, h6, h7⟩ := he _ _ hs
    match cs, h7 with
    | c :: cs, h7 =>
      refine ⟨c :: cs, h6, ⟨?_, h7.1⟩, h7.2⟩
      rw [← h5, h6]; rfl
  · exact he _ _ hq
/-- Once more as one thing. -/
theorem Fin.closeM {Q : Exit → Act → World → Prop} {x : Exit} {b cap sz : Nat} {e : TypeId} {rows : List (List Pr)} {sp : List Value} (j : Nat) (hj : rs[j]? = some (cellsRes true b e (rows.flatten ++ sp.map is))) (hc : rows.length ≤ cap) (hm : cap ≤ maxLen) (hq : sp.length = (cap - rows.length) * sz)
    (k : Fin n E (Hp M0 w0 S (rs.set j (mutRes e sz rows (.slice (some ⟨b, 0, none⟩) rows.length cap)))) Q x) : Fin n E (Hp M0 w0 S rs) Q x :=
  Fin.conv (fun a w hs => by
    obtain ⟨M, h1, h2, h3, h4⟩ := hs
    have h4 : HpH M0 w0 S rs M w := h4
    exact ⟨M, h1, h2, h3, h4.swap1 hj rfl rfl ⟨b, cap, sp, rfl, hc, hm, hq, (h4.hold _ (List.mem_of_getElem? hj)).1⟩⟩) k
theorem cell1_at {β : Type} {f : β → List Pr} {l : List β} {qs : List Pr} (hf : ∀ x, (f x).length = 1) {i : Int} {x : β} {p : Pr} (h : l[i.toNat]? = some x) (hp : f x = [p]) : ((l.map f).flatten ++ qs)[0 + i.toNat * 1]? = some p := by
  have hl : ∀ r ∈ l.map f, r.length = 1 := map_rows hf
  have hi : i.toNat < l.length := by rcases Nat.lt_or_ge i.toNat l.length with h' | h'; exact h'; rw [List.getElem?_eq_none h'] at h; cases h
  have hfl := flat_len hl
  rw [List.length_map] at hfl
  rw [Nat.zero_add, List.getElem?_append_left (by rw [hfl]; omega), show i.toNat * 1 = i.toNat * 1 + 0 by omega, flat_at hl (by rw [List.getElem?_map, h]; rfl) (by omega), hp]; rfl
/-! ### a new variable in a region of any order -/
def ptrRes (T : TypeId) (ps : List Pr) (v : Value) : Res := match v with | .pointer (some a) => cellsRes true a.block T ps | _ => noRes
theorem ef_allocX {d j : Nat} {T : TypeId} {zs : List Value} (hg : o.guard = none) (hd : o.dst = some d) (hn : d < n) (ho : o.op = .alloc T) (hz : zeroB P T = some zs) (h1' : zs.all (·.oneCell') = true) :
    OpEf P M0 w0 S n j (SR.c noRes) ⟨d, ptrRes T (zs.map is)⟩ o E (Cp.ex fun b => ptr b 0) := by
  refine ⟨hg, fun M w a rs hszn he hI hj => ?_⟩
  have h1 : ∀ c ∈ zs, c.oneCell' = true := fun c hc => List.all_eq_true.1 h1' c hc
  obtain ⟨z, hz1, hz2⟩ := run_zero hz w
  have hrun : (execOp a.eval o).run P w = .ok (.value (.pointer (some ⟨w.heap.size, 0, none⟩))) (w.alloc (.cells zs.toArray T)) := by simp [execOp, ho, Instr.alloc, hz1, newVar, newRow, ← hz2]
  rw [hrun]
  have hb : Below w.heap.size w (w.alloc (.cells zs.toArray T)) := (Below.refl _ _).alloc (Nat.le_refl _) _
  have h2 := Ext.below (M := M) hb
  have hext : Ext M w (fun b o => M b o ∨ b = w.heap.size) (w.alloc (.cells zs.toArray T)) := by
    refine ⟨h2.size, fun a v hc hm => ⟨fun hx => ?_, (h2.keep a v hc hm).2⟩, fun b o ho hp hm => ⟨fun hx => ?_, (h2.obj b o ho hp hm).2⟩⟩
    · rcases hx with hx | hx
      · exact hm hx
      · have := cell_lt hc; omega
    · rcases hx with hx | hx
      · exact hm hx
      · subst hx; simp at ho
  have hs1 : (w.alloc (.cells zs.toArray T)).heap.size = w.heap.size + 1 := by simp
  have hat : (SR.at_ (a.put o.dst (.pointer (some ⟨w.heap.size, 0, none⟩))) ⟨d, ptrRes T (zs.map is)⟩) = cellsRes true w.heap.size T (zs.map is) := by unfold SR.at_; rw [hd, put_same (by rw [hszn]; exact hn)]; rfl
  refine ⟨fun b o => M b o ∨ b = w.heap.size, ⟨_, rfl⟩, hext, ?_⟩
  rw [hat]
  refine hI.replace hj hext hb.os hb.tape hb.output (fun k hk _ => hb.block k hk) rfl (fun b o hm _ => .inl hm) (fun b o hx => ?_) ?_ rfl (fun b hbk => ?_)
  · rcases hx with hx | hx
    · have := hI.bd _ _ hx; omega
    · omega
  · refine ⟨fun o => .inr rfl, zs, heap_alloc_new w _, hl_is _ _ _, h1⟩
  · have hbk' : some w.heap.size = some b := hbk
    injection hbk' with e1
    subst e1
    exact ⟨by rw [hs1]; omega, .inr (Nat.le_refl _)⟩
theorem ef_storeX {t : TypeId} {s : Tmp} {y : Operand} {j m : Nat} {T : TypeId} {ps qs : List Pr} (hg : o.guard = none) (hd : o.dst = none) (ho : o.op = .store t (.tmp s) y) (hx : E.lookup s = some (Cp.ex fun b => ptr b 0)) (hy : VL E y (cellsP qs))
    (hz : sizeB P t = some m) (hm : qs.length = m) (hl : ps.length = m) : OpEf P M0 w0 S n j ⟨s, ptrRes T ps⟩ ⟨s, ptrRes T qs⟩ o E any := by
  refine ⟨hg, fun M w a rs hsz he hI hj => ?_⟩
  have hxv : VL E (.tmp s) (Cp.ex fun b => ptr b 0) := ⟨_, hx, Pr.le_refl _⟩
  obtain ⟨b, h1'⟩ := hxv.ev he (show (Operand.tmp s) ∈ o.op.operands.toList by simp [ho, Op.operands])
  have h1 : a.eval (.tmp s) = .pointer (some ⟨b, 0, none⟩) := h1'
  have h1t : a.tmps.getD s undef = .pointer (some ⟨b, 0, none⟩) := h1
  have hj' : rs[j]? = some (cellsRes true b T ps) := by
    rw [hj]; show some (ptrRes T ps (a.tmps.getD s undef)) = _; rw [h1t]; rfl
  obtain ⟨h2, h3⟩ := hy.ev he (show y ∈ o.op.operands.toList by simp [ho, Op.operands])
  obtain ⟨⟨_, cs, h4, h5, h6⟩, _⟩ := hI.hold _ (List.mem_of_getElem? hj')
  have h5l := h5.length
  have h2l := h2.length
  have hcells : (a.eval y).cells.size = m := by rw [← hm, ← h2l]; simp
  have hrun : (storeCells ⟨b, 0, none⟩ (a.eval y).cells.toList 0).run P w = .ok () (w.setRow b (cs.take 0 ++ (a.eval y).cells.toList ++ cs.drop (0 + m)).toArray) := by
    have := run_storeCells_at (P := P) b 0 T (a.eval y).cells.toList 0 cs.toArray w h4 (by simp; omega) h3
    simpa [hcells] using this
  have hdrop : cs.drop (0 + m) = [] := List.drop_eq_nil_of_le (by omega)
  rw [hdrop, List.take_zero, List.nil_append, List.append_nil] at hrun
  have hrun2 : (execOp a.eval o).run P w = .ok .skip (w.setRow b (a.eval y).cells.toList.toArray) := by
    simp only [execOp, ho, h1, Instr.storeAt, Instr.sureAddr, storeVar]
    simp [run_size hz, hcells, hrun]
  rw [hrun2]
  obtain ⟨h7, h8⟩ := HpH.write (qs := qs) (cs := (a.eval y).cells.toList) hI hj' h2 h3
  refine ⟨M, trivial, h8, ?_⟩
  have hat : (SR.at_ (a.put o.dst undef) ⟨s, ptrRes T qs⟩) = cellsRes true b T qs := by
    rw [hd]; show ptrRes T qs (a.tmps.getD s undef) = _; rw [h1t]; rfl
  rw [hat]; exact h7
theorem Fin.opn {Q : Exit → Act → World → Prop} {x : Exit} (s j : Nat) {v : Value} {f : Value → Res} (g : Nat → Res) (hs : E.lookup s = some (andIs v (Cp.ex fun b => ptr b 0))) (hi : rs[j]? = some (f v)) (hf : ∀ b, f (.pointer (some ⟨b, 0, none⟩)) = g b)
    (k : ∀ b, Fin n ((s, ptr b 0) :: E) (Hp M0 w0 S (rs.set j (g b))) Q x) : Fin n E (Hp M0 w0 S rs) Q x := by
  intro a w hst
  obtain ⟨M, h1, h2, he, h4⟩ := hst
  obtain ⟨h5, b, h6⟩ := he s _ hs
  have hv : v = .pointer (some ⟨b, 0, none⟩) := by rw [← h5]; exact h6
  have hj : rs.set j (g b) = rs := by
    have hjl : j < rs.length := by rcases Nat.lt_or_ge j rs.length with h | h; exact h; rw [List.getElem?_eq_none h] at hi; cases hi
    rw [← hf b, ← hv]
    rw [List.getElem?_eq_getElem hjl] at hi
    simp at hi
    rw [← hi, List.set_getElem_self]
  refine k b a w ⟨M, h1, h2, ?_, by rw [hj]; exact h4⟩
  intro t q hq
  simp only [List.lookup] at hq
  by_cases ht : t = s
  · subst ht; simp at hq; subst hq; exact h6
  · rw [show (t == s) = false by simpa using ht] at hq; exact he t q hq
theorem cells_clearR {β : Type} {f : β → List Pr} {sz : Nat} (hf : ∀ x, (f x).length = sz) {z : List Pr} (hz : z.length = sz) {l : List β} {qs : List Pr} {i m : Nat} (hm : m = l.length - ((i : Nat) : Int).toNat) (h : i ≤ l.length) :
    ((l.map f).flatten ++ qs).take (((i : Nat) : Int).toNat * sz) ++ (List.replicate m z).flatten ++ ((l.map f).flatten ++ qs).drop (((i : Nat) : Int).toNat * sz + m * sz) = ((l.take i).map f).flatten ++ (List.replicate (l.length - i) z).flatten ++ qs := by
  rw [Int.toNat_natCast] at hm ⊢; subst hm
  have hl2 : ∀ r ∈ (l.take i).map f, r.length = sz := map_rows hf
  have e1 : i * sz + (l.length - i) * sz = ((l.map f).flatten).length := by rw [flat_len (map_rows hf), List.length_map, ← Nat.add_mul]; congr 1; omega
  have e2 : (l.map f).flatten = ((l.take i).map f).flatten ++ ((l.drop i).map f).flatten := by rw [← List.flatten_append, ← List.map_append, List.take_append_drop]
  have e3 : (((l.take i).map f).flatten).length = i * sz := by rw [flat_len hl2, List.length_map, List.length_take]; congr 1; omega
  rw [e1, List.drop_left]
  congr 2
  rw [e2, List.append_assoc, ← e3, List.take_left]
end
end Cp
