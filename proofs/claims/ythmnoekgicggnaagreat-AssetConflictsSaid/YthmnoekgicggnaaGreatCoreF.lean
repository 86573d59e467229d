/-
  Memory that is written: operations one after the other.
-/
import Derived.Test.YthmnoekgicggnaaGreatCoreE
namespace Cp
open Go Go.RowKit

section
variable {P : Program} {n : Nat} {E : Env} {I : Asn} {Q : Exit → Act → World → Prop} {ops : Array Oper} {o : Oper} {r l : List Oper}

/-- The operations l, from the place k of the region on. -/
def TO (P : Program) (n : Nat) (ops : Array Oper) (l : List Oper) (E : Env) (I : Asn) (Q : Exit → Act → World → Prop) : Prop :=
  ∀ k, (∀ j, l[j]? = ops[k + j]?) → ∀ a w, St n E I a w → wpOps P ops Q (List.range' k l.length) a w

theorem Tr.regT {id : Nat} (h : TO P n l.toArray l E I Q) : Tr P n E I (.region id l.toArray false) Q := by
  intro a w hs
  refine wp_region ?_
  have := h 0 (by simp) a w hs
  simpa [List.range_eq_range'] using this
theorem TO.nil (h : Fin n E I Q .normal) : TO P n ops [] E I Q := fun _ _ a w hs => h a w hs
theorem TO.ch (h : Ch P n I ops l E (fun E' => Fin n E' I Q .normal)) : TO P n ops l E I Q := fun k hl a w hs => wpOps_of_ch l k E hl h a w hs
theorem TO.conv {E' : Env} {I' : Asn} (h : ∀ a w, St n E I a w → St n E' I' a w) (k : TO P n ops l E' I' Q) : TO P n ops l E I Q := fun m hl a w hs => k m hl a w (h a w hs)
theorem Tr.conv {E' : Env} {I' : Asn} {c : Code} (h : ∀ a w, St n E I a w → St n E' I' a w) (k : Tr P n E' I' c Q) : Tr P n E I c Q := fun a w hs => k a w (h a w hs)
theorem Fin.conv {E' : Env} {I' : Asn} {e : Exit} (h : ∀ a w, St n E I a w → St n E' I' a w) (k : Fin n E' I' Q e) : Fin n E I Q e := fun a w hs => k a w (h a w hs)

/-- One operation, whatever it does. -/
theorem TO.eff (hg : o.guard = none) (h : ∀ (K : Act → World → Prop) M w (a : Act), a.tmps.size = n → a.defers = [] → EnvOK M w E a → I.h M w →
    (∀ E' I' a' w', TO P n ops r E' I' Q → St n E' I' a' w' → K a' w') → o.wp P a w K Q) : TO P n ops (o :: r) E I Q := by
  intro k hl a w hs
  have h0 : ops[k]? = some o := by simpa using (hl 0).symm
  obtain ⟨M, hn, hd, he, hI⟩ := hs
  simp only [List.length_cons, List.range'_succ, wpOps, h0]
  rw [if_pos (wanted_none hg)]
  exact .inl (h _ M w a hn hd he hI fun E' I' a' w' hT hst => hT (k + 1) (fun j => by have := hl (j + 1); simpa [Nat.add_assoc, Nat.add_comm 1 j] using this) a' w' hst)

theorem TO.op {d : Nat} {p : Pr} (hg : o.guard = none) (hd : o.dst = some d) (hn : d < n) (h : OpOK P I o E p) (k : TO P n ops r ((d, p) :: E) I Q) : TO P n ops (o :: r) E I Q :=
  TO.eff hg fun K M w a h1 h2 h3 h4 hK => by
    refine gives_upon (h M w a (looks_env h3) h4) fun v w' hv hb => hK _ _ _ _ k ⟨M, ?_, ?_, ?_, I.st _ _ _ hb h4⟩
    · rw [put_size]; exact h1
    · rw [put_defers]; exact h2
    · have := h3.put (o := o) (p := p) hb hv (fun d' hd' => by rw [hd] at hd'; cases hd'; rw [h1]; exact hn)
      unfold upd at this; rw [hd] at this; rw [hd]; exact this

theorem TO.val {K : Act → World → Prop} {a : Act} {w w' : World} {v : Value} (hrun : (execOp a.eval o).run P w = .ok (.value v) w') (h : K (a.put o.dst v) w') : o.wp P a w K Q := by
  unfold Oper.wp; rw [hrun]; exact h
theorem TO.skp {K : Act → World → Prop} {a : Act} {w w' : World} (hrun : (execOp a.eval o).run P w = .ok .skip w') (h : K (a.put o.dst undef) w') : o.wp P a w K Q := by
  unfold Oper.wp; rw [hrun]; exact h

/-! ### A block that is ours -/

/-- A block of cells that we may turn. -/
def cellsRes (new : Bool) (b : Nat) (T : TypeId) (ps : List Pr) : Res where
  blk := some b
  new := new
  h M w := (∀ o, M b o) ∧ ∃ cs : List Value, w.heap[b]? = some (.cells cs.toArray T (0, 0)) ∧ HL M w ps cs ∧ ∀ c ∈ cs, c.oneCell' = true
  st M w M' w' he hk h := by
    obtain ⟨h1, h2⟩ := hk b rfl
    obtain ⟨h3, cs, h4, h5, h6⟩ := h
    exact ⟨fun o => h2 o (h3 o), cs, h1.trans h4, h5.st he, h6⟩

variable {M0 : Av} {w0 : World} {S : Nat → Prop} {rs : List Res}

/-- The zero of a type, cell by cell. -/
def zeroB (P : Program) (t : TypeId) : Option (List Value) := match P.info? t with | some i => i.zero.map (·.cells.toList) | none => none

theorem run_zero {t : TypeId} {zs : List Value} (h : zeroB P t = some zs) (w : World) : ∃ z : Value, (zeroValue t).run P w = .ok z w ∧ z.cells.toList = zs := by
  unfold zeroB at h
  cases hi : P.info? t with
  | none => rw [hi] at h; cases h
  | some i =>
    rw [hi] at h
    simp only [Option.map_eq_some_iff] at h
    obtain ⟨z, hz, h⟩ := h
    exact ⟨z, by simp [zeroValue, typeInfo, hi, hz], h⟩

theorem hl_is (M : Av) (w : World) : ∀ (zs : List Value), HL M w (zs.map is) zs
  | [] => trivial
  | _ :: r => ⟨rfl, hl_is M w r⟩

/-- A new block joins. -/
theorem HpH.add {M : Av} {w : World} {cs : List Value} {T : TypeId} {ps : List Pr} (h : HpH M0 w0 S rs M w) (hc : HL M w ps cs) (h1 : ∀ c ∈ cs, c.oneCell' = true) :
    HpH M0 w0 S (cellsRes true w.heap.size T ps :: rs) (fun b o => M b o ∨ b = w.heap.size) (w.alloc (.cells cs.toArray T)) ∧
    Ext M w (fun b o => M b o ∨ b = w.heap.size) (w.alloc (.cells cs.toArray T)) := by
  have hb : Below w.heap.size w (w.alloc (.cells cs.toArray T)) := (Below.refl _ _).alloc (Nat.le_refl _) _
  have hsz : (w.alloc (.cells cs.toArray T)).heap.size = w.heap.size + 1 := by simp
  have he : Ext M w (fun b o => M b o ∨ b = w.heap.size) (w.alloc (.cells cs.toArray T)) := by
    have h2 := Ext.below (M := M) hb
    refine ⟨h2.size, fun a v hc hm => ⟨fun hx => ?_, (h2.keep a v hc hm).2⟩, fun b o ho hp hm => ⟨fun hx => ?_, (h2.obj b o ho hp hm).2⟩⟩
    · rcases hx with hx | hx
      · exact hm hx
      · have := cell_lt hc; omega
    · rcases hx with hx | hx
      · exact hm hx
      · subst hx; simp at ho
  have hI := (Hp M0 w0 S rs).st _ _ _ hb h
  refine ⟨⟨hI.m0, fun b o hm => .inl (hI.m b o hm), hI.os, hI.tape, hI.output, hI.size, hI.block, fun b o hm => ?_, fun r hr => ?_, ?_⟩, he⟩
  · rcases hm with hm | hm
    · exact hI.bd b o hm
    · omega
  · rcases List.mem_cons.1 hr with rfl | hr
    · refine ⟨⟨fun o => .inr rfl, cs, heap_alloc_new w _, hc.st he, h1⟩, fun b hbk => ?_⟩
      simp only [cellsRes, Option.some.injEq] at hbk
      subst hbk
      exact ⟨by omega, by simp [cellsRes]; exact h.size⟩
    · obtain ⟨h3, h4⟩ := h.hold r hr
      exact ⟨r.st _ _ _ _ he (fun b hbk => ⟨hb.block b (h4 b hbk).1, fun _ x => .inl x⟩) h3, fun b hbk => ⟨by have := (h4 b hbk).1; omega, (h4 b hbk).2⟩⟩
  · refine List.Pairwise.cons (fun r hr b hbk hbk' => ?_) h.nd
    simp only [cellsRes, Option.some.injEq] at hbk
    have := ((h.hold r hr).2 b hbk').1
    omega

theorem TO.alloc {d : Nat} {T : TypeId} {zs : List Value} (hg : o.guard = none) (hd : o.dst = some d) (hn : d < n) (ho : o.op = .alloc T) (hz : zeroB P T = some zs) (h1' : zs.all (·.oneCell') = true)
    (k : ∀ b, TO P n ops r ((d, is (.pointer (some ⟨b, 0, none⟩))) :: E) (Hp M0 w0 S (cellsRes true b T (zs.map is) :: rs)) Q) : TO P n ops (o :: r) E (Hp M0 w0 S rs) Q :=
  TO.eff hg fun K M w a hsz hdf he hI hK => by
    have h1 : ∀ c ∈ zs, c.oneCell' = true := fun c hc => List.all_eq_true.1 h1' c hc
    obtain ⟨z, hz1, hz2⟩ := run_zero hz w
    refine TO.val (v := .pointer (some ⟨w.heap.size, 0, none⟩)) (w' := w.alloc (.cells zs.toArray T)) ?_ ?_
    · simp [execOp, ho, Instr.alloc, hz1, newVar, newRow, ← hz2]
    · obtain ⟨h2, h3⟩ := HpH.add (T := T) hI (hl_is M w zs) h1
      refine hK _ _ _ _ (k w.heap.size) ⟨_, by rw [put_size]; exact hsz, by rw [put_defers]; exact hdf, ?_, h2⟩
      intro s p hp
      simp only [List.lookup] at hp
      by_cases hs : s = d
      · subst hs; simp at hp; subst hp; rw [hd, put_same (by rw [hsz]; exact hn)]; rfl
      · rw [show (s == d) = false by simpa using hs] at hp
        rw [hd, put_other hs]
        exact p.st _ _ _ _ _ h3 (he s p hp)

/-- What is known of a block turns; all else stays. -/
theorem HpH.write {M : Av} {w : World} {new : Bool} {b : Nat} {T : TypeId} {ps qs : List Pr} {i : Nat} {cs : List Value} (h : HpH M0 w0 S rs M w) (hi : rs[i]? = some (cellsRes new b T ps)) (hc : HL M w qs cs) (h1 : ∀ c ∈ cs, c.oneCell' = true) :
    HpH M0 w0 S (rs.set i (cellsRes new b T qs)) M (w.setRow b cs.toArray) ∧ Ext M w M (w.setRow b cs.toArray) := by
  have hil : i < rs.length := by rcases Nat.lt_or_ge i rs.length with h | h; exact h; rw [List.getElem?_eq_none h] at hi; cases hi
  obtain ⟨⟨hm, cs0, hh, _, _⟩, hbb⟩ := h.hold _ (List.mem_of_getElem? hi)
  obtain ⟨hlt, hnew⟩ := hbb b rfl
  have he : Ext M w M (w.setRow b cs.toArray) := by
    refine ⟨by simp, fun a v hc hma => ⟨hma, ?_⟩, fun k o' ho hp hmk => ⟨hmk, ?_⟩⟩
    · rw [cell_setRow_other _ _ _ _ (fun hb => hma (by rw [hb]; exact hm _))]; exact hc
    · by_cases hkb : k = b
      · subst hkb; rw [hh] at ho; cases ho; cases hp
      · rw [setRow_other _ _ _ _ hkb]; exact ho
  refine ⟨⟨h.m0, h.m, h.os, h.tape, h.output, by simpa using h.size, fun k hk hs => ?_, fun b' o' hm' => by simpa using h.bd b' o' hm', fun r hr => ?_, ?_⟩, he⟩
  · by_cases hkb : k = b
    · subst hkb
      exfalso
      simp only [cellsRes] at hnew
      cases new
      · exact hs hnew
      · simp at hnew; omega
    · rw [setRow_other _ _ _ _ hkb]; exact h.block k hk hs
  · obtain ⟨j, hj, rfl⟩ := List.mem_iff_getElem.1 hr
    rw [List.getElem_set]
    split
    · refine ⟨⟨hm, cs, setRow_heap w b _ _ T _ hh, hc.st he, h1⟩, fun b' hb' => ?_⟩
      simp only [cellsRes, Option.some.injEq] at hb'
      subst hb'
      exact ⟨by simpa using hlt, hnew⟩
    · rename_i hne
      have hjl : j < rs.length := by simpa using hj
      have hjm : rs[j] ∈ rs := List.getElem_mem hjl
      obtain ⟨h3, h4⟩ := h.hold _ hjm
      have hd : ∀ b', (rs[j]).blk = some b' → b' ≠ b := by
        intro b' hb' e
        subst e
        have hib : (rs[i]).blk = some b' := by
          have : rs[i] = cellsRes new b' T ps := by rw [List.getElem?_eq_getElem hil] at hi; simpa using hi
          rw [this]; rfl
        rcases Nat.lt_or_gt_of_ne hne with hlt' | hlt'
        · exact List.pairwise_iff_getElem.1 h.nd i j hil hjl hlt' b' hib hb'
        · exact List.pairwise_iff_getElem.1 h.nd j i hjl hil hlt' b' hb' hib
      exact ⟨(rs[j]).st _ _ _ _ he (fun b' hb' => ⟨setRow_other _ _ _ _ (hd b' hb'), fun _ x => x⟩) h3, fun b' hb' => by simpa using h4 b' hb'⟩
  · have hb : ∀ j (hj : j < rs.length), ((rs.set i (cellsRes new b T qs))[j]'(by simpa using hj)).blk = (rs[j]).blk := by
      intro j hj
      rw [List.getElem_set]
      split
      · rename_i e
        subst e
        rw [List.getElem?_eq_getElem hil] at hi
        simp only [Option.some.injEq] at hi
        rw [hi]; rfl
      · rfl
    rw [List.pairwise_iff_getElem]
    intro j k hj hk hjk b' hb1 hb2
    rw [hb j (by simpa using hj)] at hb1
    rw [hb k (by simpa using hk)] at hb2
    exact List.pairwise_iff_getElem.1 h.nd j k (by simpa using hj) (by simpa using hk) hjk b' hb1 hb2

theorem HL.take {M : Av} {w : World} : ∀ {ps : List Pr} {vs : List Value} (k : Nat), HL M w ps vs → HL M w (ps.take k) (vs.take k)
  | _, _, 0, _ => trivial
  | [], [], _ + 1, _ => trivial
  | [], _ :: _, _ + 1, h => h.elim
  | _ :: _, [], _ + 1, h => h.elim
  | _ :: _, _ :: _, k + 1, h => ⟨h.1, HL.take k h.2⟩
theorem HL.drop {M : Av} {w : World} : ∀ {ps : List Pr} {vs : List Value} (k : Nat), HL M w ps vs → HL M w (ps.drop k) (vs.drop k)
  | _, _, 0, h => h
  | [], [], _ + 1, _ => trivial
  | [], _ :: _, _ + 1, h => h.elim
  | _ :: _, [], _ + 1, h => h.elim
  | _ :: _, _ :: _, k + 1, h => HL.drop k h.2

/-- A store into a block of ours. -/
theorem TO.store {t : TypeId} {x y : Operand} {new : Bool} {b off m : Nat} {T : TypeId} {ps qs : List Pr} (i : Nat) (hg : o.guard = none) (hd : o.dst = none) (ho : o.op = .store t x y) (hx : VL E x (is (.pointer (some ⟨b, off, none⟩)))) (hy : VL E y (cellsP qs))
    (hi : rs[i]? = some (cellsRes new b T ps)) (hz : sizeB P t = some m) (hm : qs.length = m) (hl : off + m ≤ ps.length)
    (k : TO P n ops r E (Hp M0 w0 S (rs.set i (cellsRes new b T (ps.take off ++ qs ++ ps.drop (off + m))))) Q) : TO P n ops (o :: r) E (Hp M0 w0 S rs) Q :=
  TO.eff hg fun K M w a hsz hdf he hI hK => by
    have h1 : a.eval x = .pointer (some ⟨b, off, none⟩) := hx.ev (o := o) (looks_env he) (by simp [ho, Op.operands])
    obtain ⟨h2, h3⟩ := hy.ev (o := o) (looks_env he) (show y ∈ o.op.operands.toList by simp [ho, Op.operands])
    obtain ⟨⟨_, cs, h4, h5, h6⟩, _⟩ := HpH.hold hI _ (List.mem_of_getElem? hi)
    have h5l := h5.length
    have h2l := h2.length
    have hcells : (a.eval y).cells.size = m := by rw [← hm, ← h2l]; simp
    have hrun : (storeCells ⟨b, off, none⟩ (a.eval y).cells.toList 0).run P w = .ok () (w.setRow b (cs.take off ++ (a.eval y).cells.toList ++ cs.drop (off + m)).toArray) := by
      have := run_storeCells_at (P := P) b off T (a.eval y).cells.toList 0 cs.toArray w h4 (by simp; omega) h3
      simpa [hcells] using this
    refine TO.skp (w' := w.setRow b (cs.take off ++ (a.eval y).cells.toList ++ cs.drop (off + m)).toArray) ?_ ?_
    · simp [execOp, ho, h1, Instr.storeAt, Instr.sureAddr, storeVar, run_size hz, hcells, hrun]
    · obtain ⟨h7, h8⟩ := HpH.write (qs := ps.take off ++ qs ++ ps.drop (off + m)) (cs := cs.take off ++ (a.eval y).cells.toList ++ cs.drop (off + m)) hI hi ((((h5.take off).app h2)).app (h5.drop (off + m)))
        (fun c hc => by
          simp only [List.mem_append] at hc
          rcases hc with (hc | hc) | hc
          · exact h6 c (List.mem_of_mem_take hc)
          · exact h3 c hc
          · exact h6 c (List.mem_of_mem_drop hc))
      refine hK _ _ _ _ k ⟨M, by rw [put_size]; exact hsz, by rw [put_defers]; exact hdf, ?_, h7⟩
      intro s p hp
      rw [hd]
      exact p.st _ _ _ _ _ h8 (he s p hp)

theorem TO.store_all {t : TypeId} {x y : Operand} {new : Bool} {b m : Nat} {T : TypeId} {ps qs : List Pr} (i : Nat) (hg : o.guard = none) (hd : o.dst = none) (ho : o.op = .store t x y) (hx : VL E x (is (.pointer (some ⟨b, 0, none⟩)))) (hy : VL E y (cellsP qs))
    (hi : rs[i]? = some (cellsRes new b T ps)) (hz : sizeB P t = some m) (hm : qs.length = m) (hl : ps.length = m)
    (k : TO P n ops r E (Hp M0 w0 S (rs.set i (cellsRes new b T qs))) Q) : TO P n ops (o :: r) E (Hp M0 w0 S rs) Q := by
  refine TO.store i hg hd ho hx hy hi hz hm (by omega) ?_
  rw [show ps.take 0 ++ qs ++ ps.drop (0 + m) = qs by simp; omega]
  exact k

/-- We turn it no more. -/
theorem St.freeze {b : Nat} {T : TypeId} {ps : List Pr} (i s : Nat) (hi : rs[i]? = some (cellsRes true b T ps)) (hs : E.lookup s = some (is (.pointer (some ⟨b, 0, none⟩)))) {a : Act} {w : World}
    (h : St n E (Hp M0 w0 S rs) a w) : St n ((s, ref ps) :: E) (Hp M0 w0 S (rs.eraseIdx i)) a w := by
  obtain ⟨M, h1, h2, h3, h4⟩ := h
  have h4 : HpH M0 w0 S rs M w := h4
  have hil : i < rs.length := by rcases Nat.lt_or_ge i rs.length with h | h; exact h; rw [List.getElem?_eq_none h] at hi; cases hi
  have hig : rs[i] = cellsRes true b T ps := by rw [List.getElem?_eq_getElem hil] at hi; simpa using hi
  obtain ⟨⟨hm, cs, hh, hc, hone⟩, hbb⟩ := h4.hold _ (List.mem_of_getElem? hi)
  obtain ⟨hlt, hnew⟩ := hbb b rfl
  have hnew : w0.heap.size ≤ b := by simpa [cellsRes] using hnew
  have he : Ext M w (fun b' o => M b' o ∧ b' ≠ b) w := Ext.less fun _ _ h => h.1
  have hd : ∀ j (hj : j < rs.length), j ≠ i → ∀ b', (rs[j]).blk = some b' → b' ≠ b := by
    intro j hj hne b' hb' e
    subst e
    rcases Nat.lt_or_gt_of_ne hne with hlt' | hlt'
    · exact List.pairwise_iff_getElem.1 h4.nd j i hj hil hlt' b' hb' (by rw [hig]; rfl)
    · exact List.pairwise_iff_getElem.1 h4.nd i j hil hj hlt' b' (by rw [hig]; rfl) hb'
  refine ⟨fun b' o => M b' o ∧ b' ≠ b, h1, h2, ?_, ⟨h4.m0, fun b' o' hm' => ⟨h4.m b' o' hm', fun e => ?_⟩, h4.os, h4.tape, h4.output, h4.size, h4.block, fun b' o' hm' => h4.bd b' o' hm'.1, fun r hr => ?_, ?_⟩⟩
  · intro t p hp
    simp only [List.lookup] at hp
    by_cases ht : t = s
    · subst ht
      simp at hp
      subst hp
      refine ⟨⟨b, 0, none⟩, h3 t _ hs, fun j p hp => ?_⟩
      obtain ⟨u, hu, hpu⟩ := hc.at_ j p hp
      refine ⟨u, ?_, fun hx => hx.2 rfl, hone u (List.mem_of_getElem? hu), p.st _ _ _ _ _ he hpu⟩
      rw [show Addr.add ⟨b, 0, none⟩ (0 + j) = ⟨b, j, none⟩ by unfold Addr.add; split <;> simp_all]
      simp [World.cell?, hh, hu]
    · rw [show (t == s) = false by simpa using ht] at hp
      exact p.st _ _ _ _ _ he (h3 t p hp)
  · subst e
    have := h4.m0 _ _ hm'
    omega
  · rw [List.mem_iff_getElem] at hr
    obtain ⟨j, hj, rfl⟩ := hr
    have hmem : (rs.eraseIdx i)[j] ∈ rs.eraseIdx i := List.getElem_mem hj
    have hjj : ∃ (j' : Nat) (hj' : j' < rs.length), j' ≠ i ∧ (rs.eraseIdx i)[j] = rs[j'] := by
      rw [List.getElem_eraseIdx]
      by_cases hji : j < i
      · exact ⟨j, by omega, by omega, by rw [dif_pos hji]⟩
      · have : j < rs.length - 1 := by rw [List.length_eraseIdx_of_lt hil] at hj; exact hj
        exact ⟨j + 1, by omega, by omega, by rw [dif_neg hji]⟩
    obtain ⟨j', hj', hne, heq⟩ := hjj
    rw [heq]
    obtain ⟨h5, h6⟩ := h4.hold _ (List.getElem_mem hj')
    exact ⟨(rs[j']).st _ _ _ _ he (fun b' hb' => ⟨rfl, fun o' hmo => ⟨hmo, hd j' hj' hne b' hb'⟩⟩) h5, h6⟩
  · exact List.Pairwise.sublist (List.eraseIdx_sublist rs i) h4.nd

theorem TO.freeze {b : Nat} {T : TypeId} {ps : List Pr} (i s : Nat) (hi : rs[i]? = some (cellsRes true b T ps)) (hs : E.lookup s = some (is (.pointer (some ⟨b, 0, none⟩))))
    (k : TO P n ops l ((s, ref ps) :: E) (Hp M0 w0 S (rs.eraseIdx i)) Q) : TO P n ops l E (Hp M0 w0 S rs) Q := TO.conv (fun _ _ h => h.freeze i s hi hs) k
theorem Tr.freeze {c : Code} {b : Nat} {T : TypeId} {ps : List Pr} (i s : Nat) (hi : rs[i]? = some (cellsRes true b T ps)) (hs : E.lookup s = some (is (.pointer (some ⟨b, 0, none⟩))))
    (k : Tr P n ((s, ref ps) :: E) (Hp M0 w0 S (rs.eraseIdx i)) c Q) : Tr P n E (Hp M0 w0 S rs) c Q := Tr.conv (fun _ _ h => h.freeze i s hi hs) k

theorem Fin.freeze {e : Exit} {b : Nat} {T : TypeId} {ps : List Pr} (i s : Nat) (hi : rs[i]? = some (cellsRes true b T ps)) (hs : E.lookup s = some (is (.pointer (some ⟨b, 0, none⟩))))
    (k : Fin n ((s, ref ps) :: E) (Hp M0 w0 S (rs.eraseIdx i)) Q e) : Fin n E (Hp M0 w0 S rs) Q e := Fin.conv (fun _ _ h => h.freeze i s hi hs) k

end
end Cp
