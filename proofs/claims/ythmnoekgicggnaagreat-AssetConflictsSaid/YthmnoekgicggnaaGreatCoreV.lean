/-
  Maps of ours.
-/
import Derived.Test.YthmnoekgicggnaaGreatCoreU
import Derived.Laws.IdiomRangeMap
namespace Cp
open Go Go.RowKit Go.Great

/-- A map's entries, in the order in which they came. -/
def mkE (es : List (Value × Value)) : Array MapEntry := (es.zipIdx.map fun p => ({ key := p.1.1, val := p.1.2, born := p.2 } : MapEntry)).toArray
theorem mkE_size (es : List (Value × Value)) : (mkE es).size = es.length := by simp [mkE]
theorem mkE_at (es : List (Value × Value)) (i : Nat) : (mkE es)[i]? = (es[i]?).map fun p => { key := p.1, val := p.2, born := i } := by
  simp [mkE, List.getElem?_zipIdx]
  cases es[i]? <;> simp
theorem mkE_push (es : List (Value × Value)) (k v : Value) : (mkE es).push { key := k, val := v, born := es.length } = mkE (es ++ [(k, v)]) := by
  apply Array.toList_inj.1
  simp [mkE, List.zipIdx_append]
theorem mkE_set {es : List (Value × Value)} {i : Nat} (h : i < es.length) (k v : Value) : ((mkE es).modify i fun e => { e with key := k, val := v }) = mkE (es.set i (k, v)) := by
  apply Array.ext_getElem?
  intro j
  rw [Array.getElem?_modify, mkE_at, mkE_at, List.getElem?_set]
  by_cases hj : i = j
  · subst hj
    simp [h]
  · simp [hj]

/-- What the program knows of a map's type: how its keys are compared. -/
structure MapT (P : Program) (T kt et : TypeId) {κ : Type} [DecidableEq κ] (enc : κ → Value) : Prop where
  und : P.underlying T = some (.map kt et)
  zero : ∀ w, (zeroValue et).run P w = .ok (.int .i64 0) w
  eq : ∀ a b w, (Op.equal kt (enc a) (enc b)).run P w = .ok (decide (a = b)) w
  chk : ∀ e a w, (Instr.checkKey e 10000 kt (enc a)).run P w = .ok () w
  und2 : ∃ d, P.underlying kt = some d ∧ ∀ a b, Instr.sameNow d (enc a) (enc b) = none
  bits : ∀ a, Instr.sameBits 10000 (enc a) (enc a) = true

section
variable {P : Program} {n : Nat} {E : Env} {M0 : Av} {w0 : World} {S : Nat → Prop} {rs : List Res} {o : Oper} {κ : Type} [DecidableEq κ] {enc : κ → Value}

abbrev encE (enc : κ → Value) (es : List (κ × Int)) : List (Value × Value) := es.map fun p => (enc p.1, .int .i64 p.2)
def mapR (enc : κ → Value) (b : Nat) (es : List (κ × Int)) : Res where
  blk := some b
  new := true
  h M w := (∀ o, M b o) ∧ w.heap[b]? = some (.map (mkE (encE enc es)) es.length)
  st M w M' w' he hk h := by
    obtain ⟨h1, h2⟩ := hk b rfl
    exact ⟨fun o => h2 o (h.1 o), h1.trans h.2⟩
/-- What a map holds for a key. -/
def look (es : List (κ × Int)) (k : κ) : Option Int := (es.find? fun p => decide (k = p.1)).map (·.2)
def updM (es : List (κ × Int)) (k : κ) (v : Int) : List (κ × Int) := match es.findIdx? fun p => decide (k = p.1) with | some i => es.set i (k, v) | none => es ++ [(k, v)]

theorem find_asking {T kt et : TypeId} (hT : MapT P T kt et enc) (k : κ) (w : World) : ∀ (es : List (κ × Int)) (i c : Nat),
    (Instr.findAsking kt (enc k) ((es.zipIdx c).map fun p => ({ key := enc p.1.1, val := .int .i64 p.1.2, born := p.2 } : MapEntry)) i).run P w = .ok ((es.findIdx? fun p => decide (k = p.1)).bind fun j => (es[j]?).map fun p => (i + j, .int .i64 p.2)) w
  | [], i, c => by simp [Instr.findAsking]
  | p :: es, i, c => by
    rw [List.zipIdx_cons, List.map_cons, Instr.findAsking, Sem.run_bind, hT.eq, Result.andThen_ok]
    by_cases h : k = p.1
    · simp [h, List.findIdx?_cons]
    · rw [if_neg (by simpa using h), find_asking hT k w es (i + 1) (c + 1), List.findIdx?_cons]
      simp only [h, decide_false, Bool.false_eq_true, if_false]
      congr 1
      cases hf : es.findIdx? fun p => decide (k = p.1) with
      | none => simp
      | some j => simp [Nat.add_assoc, Nat.add_comm 1 j]
theorem find_key {T kt et : TypeId} (hT : MapT P T kt et enc) (k : κ) (w : World) (es : List (κ × Int)) :
    (Instr.findKey kt (enc k) (mkE (encE enc es)).toList).run P w = .ok ((es.findIdx? fun p => decide (k = p.1)).bind fun j => (es[j]?).map fun p => (j, .int .i64 p.2)) w := by
  obtain ⟨d, hd, hn⟩ := hT.und2
  have hl : (mkE (encE enc es)).toList = (es.zipIdx 0).map fun p => ({ key := enc p.1.1, val := .int .i64 p.1.2, born := p.2 } : MapEntry) := by
    simp [mkE, encE, List.zipIdx_map]
  rw [hl]
  unfold Instr.findKey
  rw [Sem.run_bind, run_underlying hd, Result.andThen_ok]
  cases es with
  | nil => simp [Instr.findNow]
  | cons p es =>
    have h1 : Instr.findNow d (enc k) (((p :: es).zipIdx 0).map fun p => ({ key := enc p.1.1, val := .int .i64 p.1.2, born := p.2 } : MapEntry)) 0 = none := by
      rw [List.zipIdx_cons, List.map_cons, Instr.findNow, hn]
    rw [h1]
    have := find_asking hT k w (p :: es) 0 0
    simpa using this

/-! ### Blocks that are no cells -/
theorem HpH.addR {M : Av} {w : World} {obj : Obj} {r : Res} (h : HpH M0 w0 S rs M w) (hb : r.blk = some w.heap.size) (hn : r.new = true) (hr : r.h (fun b o => M b o ∨ b = w.heap.size) (w.alloc obj)) :
    HpH M0 w0 S (r :: rs) (fun b o => M b o ∨ b = w.heap.size) (w.alloc obj) ∧ Ext M w (fun b o => M b o ∨ b = w.heap.size) (w.alloc obj) := by
  have hbl : Below w.heap.size w (w.alloc obj) := (Below.refl _ _).alloc (Nat.le_refl _) _
  have hsz : (w.alloc obj).heap.size = w.heap.size + 1 := by simp
  have he : Ext M w (fun b o => M b o ∨ b = w.heap.size) (w.alloc obj) := by
    have h2 := Ext.below (M := M) hbl
    refine ⟨h2.size, fun a v hc hm => ⟨fun hx => ?_, (h2.keep a v hc hm).2⟩, fun b o ho hp hm => ⟨fun hx => ?_, (h2.obj b o ho hp hm).2⟩⟩
    · rcases hx with hx | hx
      · exact hm hx
      · have := cell_lt hc; omega
    · rcases hx with hx | hx
      · exact hm hx
      · subst hx; simp at ho
  have hI := (Hp M0 w0 S rs).st _ _ _ hbl h
  refine ⟨⟨hI.m0, fun b o hm => .inl (hI.m b o hm), hI.os, hI.tape, hI.output, hI.size, hI.block, fun b o hm => ?_, fun r' hr' => ?_, ?_⟩, he⟩
  · rcases hm with hm | hm
    · exact hI.bd b o hm
    · omega
  · rcases List.mem_cons.1 hr' with rfl | hr'
    · refine ⟨hr, fun b hbk => ?_⟩
      rw [hb] at hbk
      injection hbk with hbk
      subst hbk
      exact ⟨by omega, by rw [hn]; simpa using h.size⟩
    · obtain ⟨h3, h4⟩ := h.hold r' hr'
      exact ⟨r'.st _ _ _ _ he (fun b hbk => ⟨hbl.block b (h4 b hbk).1, fun _ x => .inl x⟩) h3, fun b hbk => ⟨by have := (h4 b hbk).1; omega, (h4 b hbk).2⟩⟩
  · refine List.Pairwise.cons (fun r' hr' b hbk hbk' => ?_) h.nd
    rw [hb] at hbk
    injection hbk with hbk
    have := ((h.hold r' hr').2 b hbk').1
    omega
def setB (w : World) (b : Nat) (o : Obj) : World := { w with heap := w.heap.setIfInBounds b o }
theorem setB_at {w : World} {b : Nat} {o : Obj} (h : b < w.heap.size) : (setB w b o).heap[b]? = some o := by
  show (w.heap.setIfInBounds b o)[b]? = _
  rw [Array.getElem?_setIfInBounds]; simp [h]
theorem setB_other {w : World} {b k : Nat} {o : Obj} (h : k ≠ b) : (setB w b o).heap[k]? = w.heap[k]? := by
  show (w.heap.setIfInBounds b o)[k]? = _
  rw [Array.getElem?_setIfInBounds, if_neg (fun e => h e.symm)]
theorem HpH.setR {M : Av} {w : World} {obj : Obj} {r r' : Res} {j b : Nat} (h : HpH M0 w0 S rs M w) (hj : rs[j]? = some r) (hb : r.blk = some b) (hb' : r'.blk = some b) (hn : r.new = true) (hn' : r'.new = true) (hM : ∀ o, M b o) (hr : r'.h M (setB w b obj)) :
    HpH M0 w0 S (rs.set j r') M (setB w b obj) ∧ Ext M w M (setB w b obj) := by
  have hlt := ((h.hold r (List.mem_of_getElem? hj)).2 b hb).1
  have hsz : (setB w b obj).heap.size = w.heap.size := by simp [setB]
  have he : Ext M w M (setB w b obj) := by
    refine ⟨by omega, fun a v hc hm => ⟨hm, ?_⟩, fun k o ho hp hm => ⟨hm, ?_⟩⟩
    · rw [World.cell?_of_block (w := w) (setB_other (fun e => hm (by rw [e]; exact hM _)))]; exact hc
    · rw [setB_other (fun e => hm (by rw [e]; exact hM _))]; exact ho
  refine ⟨h.replace hj he rfl rfl rfl (fun k _ hk => setB_other (fun e => hk (by rw [hb, e]))) hn (fun _ _ hm _ => hm) (fun k o hm => by rw [hsz]; exact h.bd k o hm) hr hn' (fun k hk => ?_), he⟩
  rw [hb'] at hk
  injection hk with hk
  subst hk
  exact ⟨by omega, .inl hb⟩

variable {Q : Exit → Act → World → Prop} {ops : Array Oper} {r : List Oper}
omit [DecidableEq κ] in
theorem TO.mkmap {d : Nat} {T : TypeId} (enc : κ → Value) (hg : o.guard = none) (hd : o.dst = some d) (hn : d < n) (ho : o.op = .makeMap T none)
    (k : ∀ b, TO P n ops r ((d, is (.map (some b))) :: E) (Hp M0 w0 S (mapR enc b [] :: rs)) Q) : TO P n ops (o :: r) E (Hp M0 w0 S rs) Q :=
  TO.eff hg fun K M w a hsz hdf he hI hK => by
    refine TO.val (v := .map (some w.heap.size)) (w' := w.alloc (.map #[] 0)) ?_ ?_
    · simp [execOp, ho, Instr.makeMap]
    · obtain ⟨h2, h3⟩ := HpH.addR (obj := .map #[] 0) (r := mapR enc w.heap.size []) hI rfl rfl ⟨fun _ => .inr rfl, by rw [heap_alloc_new]; rfl⟩
      refine hK _ _ _ _ (k w.heap.size) ⟨_, by rw [put_size]; exact hsz, by rw [put_defers]; exact hdf, ?_, h2⟩
      intro s p hp
      simp only [List.lookup] at hp
      by_cases hs : s = d
      · subst hs; simp at hp; subst hp; rw [hd, put_same (by rw [hsz]; exact hn)]; rfl
      · rw [show (s == d) = false by simpa using hs] at hp
        rw [hd, put_other hs]
        exact p.st _ _ _ _ _ h3 (he s p hp)
theorem find_at {β : Type} (p : β → Bool) : ∀ l : List β, (l.findIdx? p).bind (fun j => l[j]?) = l.find? p
  | [] => rfl
  | a :: l => by
    have ih := find_at p l
    rw [List.findIdx?_cons, List.find?_cons]
    cases h : p a with
    | true => simp
    | false =>
      simp only [Bool.false_eq_true, if_false]
      rw [← ih]
      cases l.findIdx? p <;> simp
theorem rd_lookup {T kt et : TypeId} {x y : Operand} {b j : Nat} {es : List (κ × Int)} (k : κ) {q : Pr} (hT : MapT P T kt et enc) (ho : o.op = .lookup T x y true) (hx : VL E x (is (.map (some b)))) (hy : VL E y q) (hk : ∀ M w v, q.h M w v → v = enc k) :
    OpRd P M0 w0 S j (SR.c (mapR enc b es)) o E (tup [int ((look es k).getD 0), bool (look es k).isSome]) := by
  intro M w a rs he hI hj
  have h1 : a.eval x = _ := hx.ev he (by simp [ho, Op.operands])
  have h2 : a.eval y = enc k := hk _ _ _ (hy.ev he (by simp [ho, Op.operands]))
  have hj' : rs[j]? = some (mapR enc b es) := hj
  obtain ⟨_, hh⟩ := (hI.hold _ (List.mem_of_getElem? hj')).1
  have hrun : (execOp a.eval o).run P w = .ok (.value (.tuple #[.int .i64 ((look es k).getD 0), .bool (look es k).isSome])) w := by
    have hf := find_key hT k w es
    have hg := find_at (fun p : κ × Int => decide (k = p.1)) es
    unfold look
    cases hfi : es.findIdx? fun p => decide (k = p.1) with
    | none =>
      rw [hfi] at hf hg
      rw [← hg]
      simp only [Option.bind_none] at hf
      simp [execOp, ho, h1, h2, Instr.lookup, run_underlying hT.und, MapKept.run_getObj_map hh, hT.chk, hf, hT.zero, Result.andThen]
    | some i =>
      rw [hfi] at hf hg
      rw [← hg]
      have hil : i < es.length := by rw [List.findIdx?_eq_some_iff_getElem] at hfi; exact hfi.1
      simp only [Option.bind_some, List.getElem?_eq_getElem hil, Option.map_some] at hf ⊢
      simp [execOp, ho, h1, h2, Instr.lookup, run_underlying hT.und, MapKept.run_getObj_map hh, hT.chk, hf, Result.andThen]
  rw [hrun]
  exact ⟨⟨_, rfl, rfl, rfl, trivial⟩, Below.refl _ _⟩

theorem updM_none {es : List (κ × Int)} {k : κ} {v : Int} (h : (es.findIdx? fun p => decide (k = p.1)) = none) : updM es k v = es ++ [(k, v)] := by unfold updM; rw [h]
theorem updM_some {es : List (κ × Int)} {k : κ} {v : Int} {i : Nat} (h : (es.findIdx? fun p => decide (k = p.1)) = some i) : updM es k v = es.set i (k, v) := by unfold updM; rw [h]
theorem ef_mapupd {T kt et : TypeId} {x y z : Operand} {b j : Nat} {es : List (κ × Int)} {v : Int} (k : κ) {q : Pr} (hT : MapT P T kt et enc) (hg : o.guard = none) (hd : o.dst = none) (ho : o.op = .mapUpdate T x y z) (hx : VL E x (is (.map (some b)))) (hy : VL E y q) (hk : ∀ M w v, q.h M w v → v = enc k) (hz : VL E z (int v)) :
    OpEf P M0 w0 S n j (SR.c (mapR enc b es)) (SR.c (mapR enc b (updM es k v))) o E any := by
  refine ⟨hg, fun M w a rs hsz he hI hj => ?_⟩
  have h1 : a.eval x = _ := hx.ev he (by simp [ho, Op.operands])
  have h2 : a.eval y = enc k := hk _ _ _ (hy.ev he (by simp [ho, Op.operands]))
  have h3 : a.eval z = _ := hz.ev he (by simp [ho, Op.operands])
  have hj' : rs[j]? = some (mapR enc b es) := hj
  obtain ⟨⟨hM, hh⟩, hbb⟩ := hI.hold _ (List.mem_of_getElem? hj')
  have hlt := (hbb b rfl).1
  have hf := find_key hT k w es
  have hrun : (execOp a.eval o).run P w = .ok .skip (setB w b (.map (mkE (encE enc (updM es k v))) (updM es k v).length)) := by
    cases hfi : es.findIdx? fun p => decide (k = p.1) with
    | none =>
      rw [hfi] at hf
      simp only [Option.bind_none] at hf
      rw [updM_none hfi]
      have hp : mkE (encE enc (es ++ [(k, v)])) = (mkE (encE enc es)).push { key := enc k, val := .int .i64 v, born := es.length } := by
        have := mkE_push (encE enc es) (enc k) (.int .i64 v)
        rw [List.length_map] at this
        rw [this]; simp [encE]
      rw [hp]
      simp [execOp, ho, h1, h2, h3, Instr.mapUpdate, run_underlying hT.und, MapKept.run_getObj_map hh, hT.chk, hf, MapKept.run_setObj_map _ hh, Result.andThen, setB]
    | some i =>
      have hil : i < es.length := by rw [List.findIdx?_eq_some_iff_getElem] at hfi; exact hfi.1
      have hke : (es[i]).1 = k := by
        rw [List.findIdx?_eq_some_iff_getElem] at hfi
        obtain ⟨_, h4, _⟩ := hfi
        simpa using (of_decide_eq_true h4).symm
      rw [hfi] at hf
      simp only [Option.bind_some, List.getElem?_eq_getElem hil, Option.map_some] at hf
      rw [updM_some hfi]
      have hp : mkE (encE enc (es.set i (k, v))) = (mkE (encE enc es)).modify i fun e => { e with key := enc k, val := .int .i64 v } := by
        rw [mkE_set (by simpa using hil)]; simp [encE]
      have hold : ((mkE (encE enc es))[i]?).map (·.key) = some (enc k) := by
        rw [mkE_at]; simp [encE, List.getElem?_eq_getElem hil, hke]
      rw [hp, List.length_set]
      simp [execOp, ho, h1, h2, h3, Instr.mapUpdate, run_underlying hT.und, MapKept.run_getObj_map hh, hT.chk, hf, hold, Instr.keyThatStays, hT.bits, MapKept.run_setObj_map _ hh, Result.andThen, setB]
  rw [hrun]
  obtain ⟨h5, h6⟩ := HpH.setR (obj := .map (mkE (encE enc (updM es k v))) (updM es k v).length) (r' := mapR enc b (updM es k v)) hI hj' rfl rfl rfl rfl hM ⟨hM, setB_at hlt⟩
  exact ⟨M, trivial, h6, h5⟩

/-! ### Going through a map -/
def iterR (it b m : Nat) (seen : List Nat) : Res where
  blk := some it
  new := true
  h M w := (∀ o, M it o) ∧ w.heap[it]? = some (.mapIter (some b) m seen.toArray m)
  st M w M' w' he hk h := by
    obtain ⟨h1, h2⟩ := hk it rfl
    exact ⟨fun o => h2 o (h.1 o), h1.trans h.2⟩
theorem TO.range {d j b : Nat} {T kt et : TypeId} {x : Operand} {es : List (κ × Int)} (hT : MapT P T kt et enc) (hg : o.guard = none) (hd : o.dst = some d) (hn : d < n) (ho : o.op = .range T x) (hx : VL E x (is (.map (some b)))) (hj : rs[j]? = some (mapR enc b es))
    (k : ∀ it, TO P n ops r ((d, ptr it 0) :: E) (Hp M0 w0 S (iterR it b es.length [] :: rs)) Q) : TO P n ops (o :: r) E (Hp M0 w0 S rs) Q :=
  TO.eff hg fun K M w a hsz hdf he hI hK => by
    have h1 : a.eval x = _ := hx.ev (o := o) (looks_env he) (by simp [ho, Op.operands])
    obtain ⟨_, hh⟩ := (HpH.hold hI _ (List.mem_of_getElem? hj)).1
    refine TO.val (v := .pointer (some ⟨w.heap.size, 0, none⟩)) (w' := w.alloc (.mapIter (some b) es.length #[] es.length)) ?_ ?_
    · simp [execOp, ho, h1, run_range_map w T kt et b _ _ hT.und hh]
    · obtain ⟨h2, h3⟩ := HpH.addR (obj := .mapIter (some b) es.length #[] es.length) (r := iterR w.heap.size b es.length []) hI rfl rfl ⟨fun _ => .inr rfl, by rw [heap_alloc_new]⟩
      refine hK _ _ _ _ (k w.heap.size) ⟨_, by rw [put_size]; exact hsz, by rw [put_defers]; exact hdf, ?_, h2⟩
      intro s p hp
      simp only [List.lookup] at hp
      by_cases hs : s = d
      · subst hs; simp at hp; subst hp; rw [hd, put_same (by rw [hsz]; exact hn)]; rfl
      · rw [show (s == d) = false by simpa using hs] at hp
        rw [hd, put_other hs]
        exact p.st _ _ _ _ _ h3 (he s p hp)
theorem mem_left {es : List (Value × Value)} {seen : List Nat} {e : MapEntry} : e ∈ (leftOf (mkE es) seen.toArray).toList ↔ ∃ q p, es[q]? = some p ∧ q ∉ seen ∧ e = { key := p.1, val := p.2, born := q } := by
  unfold leftOf
  rw [Array.toList_filter, List.mem_filter]
  constructor
  · rintro ⟨h1, h2⟩
    obtain ⟨q, hq⟩ := List.mem_iff_getElem?.1 h1
    rw [Array.getElem?_toList, mkE_at] at hq
    cases hp : es[q]? with
    | none => rw [hp] at hq; cases hq
    | some p =>
      rw [hp] at hq
      simp only [Option.map_some, Option.some.injEq] at hq
      subst hq
      exact ⟨q, p, hp, by simpa using h2, rfl⟩
  · rintro ⟨q, p, hp, hq, rfl⟩
    exact ⟨List.mem_iff_getElem?.2 ⟨q, by rw [Array.getElem?_toList, mkE_at, hp]; rfl⟩, by simpa using hq⟩
theorem run_next_own {w : World} (ty : TypeId) {it b m : Nat} {seen : List Nat} {es : List (Value × Value)} (hm : es.length = m) (hit : w.heap[it]? = some (.mapIter (some b) m seen.toArray m)) (hb : w.heap[b]? = some (.map (mkE es) m)) :
    ((∀ q, q < m → q ∈ seen) ∧ (Instr.next (.pointer (some ⟨it, 0, none⟩)) false ty).run P w = .ok (.tuple #[.bool false]) w) ∨
    ∃ q p, es[q]? = some p ∧ q ∉ seen ∧ ∃ w1, (w1 = w ∨ w1 = w.drew) ∧ (Instr.next (.pointer (some ⟨it, 0, none⟩)) false ty).run P w = .ok (.tuple #[.bool true, p.1, p.2]) (setB w1 it (.mapIter (some b) m (seen ++ [q]).toArray m)) := by
  have hold : ∀ x ∈ (mkE es).toList, x.born < m := by
    intro x hx
    obtain ⟨q, hq⟩ := List.mem_iff_getElem?.1 hx
    rw [Array.getElem?_toList, mkE_at] at hq
    cases hp : es[q]? with
    | none => rw [hp] at hq; cases hq
    | some p =>
      rw [hp] at hq
      simp only [Option.map_some, Option.some.injEq] at hq
      subst hq
      show q < m
      rcases Nat.lt_or_ge q es.length with h | h
      · omega
      · rw [List.getElem?_eq_none h] at hp; cases hp
  simp only [Instr.next, getObj, Sem.run_bind, Sem.run, hit, hb, Result.andThen, next_test_false seen.toArray (mkE es) m m hold (Nat.le_refl _), Bool.false_eq_true, if_false]
  have hleft : (mkE es).filter (fun e => !seen.toArray.contains e.born) = leftOf (mkE es) seen.toArray := rfl
  rw [hleft]
  have hmem : ∀ x ∈ (leftOf (mkE es) seen.toArray).toList, x.born < m := fun x hx => by
    obtain ⟨q, p, h1, _, rfl⟩ := mem_left.1 hx
    rcases Nat.lt_or_ge q es.length with h | h
    · show q < m; omega
    · rw [List.getElem?_eq_none h] at h1; cases h1
  have hml : ∀ e, e ∈ (leftOf (mkE es) seen.toArray).toList ↔ ∃ q p, es[q]? = some p ∧ q ∉ seen ∧ e = { key := p.1, val := p.2, born := q } := fun e => mem_left
  generalize leftOf (mkE es) seen.toArray = L at hmem hml ⊢
  have e1 : L.filter (fun x => decide (x.born < m)) = L := Array.filter_eq_self.2 (fun x hx => by simpa using hmem x (by simpa using hx))
  have e2 : L.filter (fun x => decide (x.born ≥ m)) = #[] := by
    rw [Array.filter_eq_empty_iff]
    intro x hx
    have := hmem x (by simpa using hx)
    simp
    omega
  simp only [e1, e2, Array.append_empty]
  by_cases h0 : L.size = 0
  · left
    have hL : L = #[] := Array.eq_empty_of_size_eq_zero h0
    refine ⟨fun q hq => ?_, ?_⟩
    · rcases Classical.em (q ∈ seen) with h | h
      · exact h
      · have := (hml { key := (es[q]'(by omega)).1, val := (es[q]'(by omega)).2, born := q }).2 ⟨q, es[q]'(by omega), List.getElem?_eq_getElem (by omega), h, rfl⟩
        rw [hL] at this; simp at this
    · subst hL
      simp [choose, Sem.run, Question.forced]
  · right
    have hne : L.isEmpty = false := by simp [Array.isEmpty, h0]
    simp only [hne, Bool.false_eq_true, if_false, Array.empty_append, Array.size_map]
    have hch : ∃ (j : Nat) (w1 : World), j < L.size ∧ (w1 = w ∨ w1 = w.drew) ∧ (choose (Question.mapNext L.size)).run P w = .ok j w1 := by
      by_cases hf : L.size ≤ 1
      · exact ⟨0, w, by omega, .inl rfl, by simp [choose, Sem.run, Question.forced, hf]⟩
      · exact ⟨_, w.drew, Nat.mod_lt _ (by omega), .inr rfl, by
          simp only [choose, Sem.run, Question.forced, decide_eq_true_eq, hf, if_false, Question.cut]
          rfl⟩
    obtain ⟨j, w1, hj, hal, hrun⟩ := hch
    obtain ⟨q, p, hq1, hq2, hq3⟩ := (hml L[j]).1 (by simp)
    refine ⟨q, p, hq1, hq2, w1, hal, ?_⟩
    have hw1 : w1.heap = w.heap := by rcases hal with rfl | rfl <;> rfl
    have hset : ∀ (o' : Obj), (setObj it o').run P w1 = .ok () (setB w1 it o') := fun o' => by
      have hit1 : w1.heap[it]? = some (.mapIter (some b) m seen.toArray m) := by rw [hw1]; exact hit
      simp only [setObj, Sem.run, hit1]
      rfl
    simp only [hrun, Array.getElem?_map, Array.getElem?_eq_getElem hj, Option.map_some, Sem.run_bind, hset, Result.andThen]
    rw [hq3]
    simp

omit [DecidableEq κ] in
theorem TO.next {d i j it b : Nat} {x : Operand} {es : List (κ × Int)} {seen : List Nat} (hg : o.guard = none) (hd : o.dst = some d) (hn : d < n) (ho : o.op = .next x false) (hx : VL E x (ptr it 0)) (hi : rs[i]? = some (iterR it b es.length seen)) (hj : rs[j]? = some (mapR enc b es))
    (k1 : (∀ q, q < es.length → q ∈ seen) → TO P n ops r ((d, tup [bool false]) :: E) (Hp M0 w0 S rs) Q)
    (k2 : ∀ q p, es[q]? = some p → q ∉ seen → TO P n ops r ((d, tup [bool true, is (enc p.1), int p.2]) :: E) (Hp M0 w0 S (rs.set i (iterR it b es.length (seen ++ [q])))) Q) : TO P n ops (o :: r) E (Hp M0 w0 S rs) Q :=
  TO.eff hg fun K M w a hsz hdf he hI hK => by
    have h1 : a.eval x = .pointer (some ⟨it, 0, none⟩) := hx.ev (o := o) (looks_env he) (by simp [ho, Op.operands])
    obtain ⟨⟨hMi, hit⟩, hbi⟩ := HpH.hold hI _ (List.mem_of_getElem? hi)
    obtain ⟨_, hh⟩ := (HpH.hold hI _ (List.mem_of_getElem? hj)).1
    have hlt := (hbi it rfl).1
    rcases run_next_own (P := P) o.type (es := encE enc es) (by simp [encE]) hit hh with ⟨h2, h3⟩ | ⟨q, p, h2, h3, w1, h4, h5⟩
    · refine TO.val (v := .tuple #[.bool false]) (w' := w) ?_ ?_
      · simp [execOp, ho, h1, h3]
      · refine hK _ _ _ _ (k1 h2) ⟨M, by rw [put_size]; exact hsz, by rw [put_defers]; exact hdf, ?_, hI⟩
        intro s p hp
        simp only [List.lookup] at hp
        by_cases hs : s = d
        · subst hs; simp at hp; subst hp; rw [hd, put_same (by rw [hsz]; exact hn)]; exact ⟨_, rfl, rfl, trivial⟩
        · rw [show (s == d) = false by simpa using hs] at hp
          rw [hd, put_other hs]; exact he s p hp
    · have hes : ∃ p', es[q]? = some p' ∧ p = (enc p'.1, .int .i64 p'.2) := by
        simp only [encE, List.getElem?_map] at h2
        cases h : es[q]? with
        | none => rw [h] at h2; cases h2
        | some p' => rw [h] at h2; simp at h2; exact ⟨p', rfl, h2.symm⟩
      obtain ⟨p', hp', rfl⟩ := hes
      refine TO.val (v := .tuple #[.bool true, enc p'.1, .int .i64 p'.2]) (w' := setB w1 it (.mapIter (some b) es.length (seen ++ [q]).toArray es.length)) ?_ ?_
      · simp [execOp, ho, h1, h5]
      · have hbel : Below w.heap.size w w1 := by
          rcases h4 with rfl | rfl
          · exact Below.refl _ _
          · exact (Below.refl _ _).drew
        have hI1 := (Hp M0 w0 S rs).st _ _ _ hbel hI
        obtain ⟨h6, h7⟩ := HpH.setR (obj := .mapIter (some b) es.length (seen ++ [q]).toArray es.length) (r' := iterR it b es.length (seen ++ [q])) hI1 hi rfl rfl rfl rfl hMi ⟨hMi, setB_at (Nat.lt_of_lt_of_le hlt hbel.size)⟩
        refine hK _ _ _ _ (k2 q p' hp' h3) ⟨M, by rw [put_size]; exact hsz, by rw [put_defers]; exact hdf, ?_, h6⟩
        intro s p hp
        simp only [List.lookup] at hp
        by_cases hs : s = d
        · subst hs; simp at hp; subst hp; rw [hd, put_same (by rw [hsz]; exact hn)]; exact ⟨_, rfl, rfl, rfl, rfl, trivial⟩
        · rw [show (s == d) = false by simpa using hs] at hp
          rw [hd, put_other hs]
          exact p.st _ _ _ _ _ ((Ext.below hbel).trans h7) (he s p hp)
omit [DecidableEq κ] in
theorem TO.entry {d i j it b q : Nat} {x : Operand} {es : List (κ × Int)} {seen : List Nat} {p : κ × Int} (hg : o.guard = none) (hd : o.dst = some d) (hn : d < n) (ho : o.op = .entry x) (hx : VL E x (ptr it 0)) (hi : rs[i]? = some (iterR it b es.length (seen ++ [q]))) (hj : rs[j]? = some (mapR enc b es)) (hq : es[q]? = some p)
    (k : TO P n ops r ((d, tup [is (enc p.1), int p.2]) :: E) (Hp M0 w0 S rs) Q) : TO P n ops (o :: r) E (Hp M0 w0 S rs) Q :=
  TO.eff hg fun K M w a hsz hdf he hI hK => by
    have h1 : a.eval x = .pointer (some ⟨it, 0, none⟩) := hx.ev (o := o) (looks_env he) (by simp [ho, Op.operands])
    obtain ⟨⟨_, hit⟩, _⟩ := HpH.hold hI _ (List.mem_of_getElem? hi)
    obtain ⟨_, hh⟩ := (HpH.hold hI _ (List.mem_of_getElem? hj)).1
    have hat : (mkE (encE enc es))[q]? = some { key := enc p.1, val := .int .i64 p.2, born := q } := by rw [mkE_at]; simp [encE, hq]
    have hnd : ((mkE (encE enc es)).toList.map (·.born)).Nodup := by
      have : (mkE (encE enc es)).toList.map (·.born) = List.range (encE enc es).length := by
        apply List.ext_getElem?
        intro k
        rw [List.getElem?_map, Array.getElem?_toList, mkE_at]
        by_cases hk : k < (encE enc es).length
        · rw [List.getElem?_range hk, List.getElem?_eq_getElem hk]; rfl
        · rw [List.getElem?_eq_none (Nat.le_of_not_lt hk), List.getElem?_eq_none (by simp at hk ⊢; omega)]; rfl
      rw [this]; exact List.nodup_range
    have hfind : (mkE (encE enc es)).find? (fun e => e.born == q) = some { key := enc p.1, val := .int .i64 p.2, born := q } := by
      rw [← Array.find?_toList]
      exact find_born { key := enc p.1, val := .int .i64 p.2, born := q } _ hnd (List.mem_iff_getElem?.2 ⟨q, by rw [Array.getElem?_toList]; exact hat⟩)
    refine TO.val (v := .tuple #[enc p.1, .int .i64 p.2]) (w' := w) ?_ ?_
    · have : (Instr.entry (.pointer (some ⟨it, 0, none⟩))).run P w = .ok (.tuple #[enc p.1, .int .i64 p.2]) w := by
        have hb : (seen ++ [q]).toArray.back? = some q := by simp
        simp only [Instr.entry, getObj, Sem.run_bind, Sem.run, hit, hh, Result.andThen, hb, bne_self_eq_false, Bool.false_eq_true, if_false, hfind]
        rfl
      simp [execOp, ho, h1, this]
    · refine hK _ _ _ _ k ⟨M, by rw [put_size]; exact hsz, by rw [put_defers]; exact hdf, ?_, hI⟩
      intro s p hp
      simp only [List.lookup] at hp
      by_cases hs : s = d
      · subst hs; simp at hp; subst hp; rw [hd, put_same (by rw [hsz]; exact hn)]; exact ⟨_, rfl, rfl, rfl, trivial⟩
      · rw [show (s == d) = false by simpa using hs] at hp
        rw [hd, put_other hs]; exact he s p hp
end

/-! ### Keys that are structs -/
section
variable {P : Program}
/-- Each field may be hashed. -/
def ChkF (P : Program) (e : Bool) (d : Nat) (cs : Array Value) : List Field → Prop
  | [] => True
  | f :: fs => (∃ v, (∀ w, (part f.type cs f.offset).run P w = .ok v w) ∧ ∀ w, (Instr.checkKey e d f.type v).run P w = .ok () w) ∧ ChkF P e d cs fs
theorem chk_leaf {t : TypeId} {e : Bool} {d : Nat} {v : Value} {td : TypeDesc} (ht : P.underlying t = some td) (h : ∀ w, (Instr.checkKey e (d + 1) t v).run P w = .ok () w) (w : World) : (Instr.checkKey e (d + 1) t v).run P w = .ok () w := h w
theorem chk_int {t : TypeId} {k : IntKind} {e : Bool} {d : Nat} {v : Value} (ht : P.underlying t = some (.int k)) (w : World) : (Instr.checkKey e (d + 1) t v).run P w = .ok () w := by
  simp [Instr.checkKey, run_underlying ht]
theorem chk_str {t : TypeId} {e : Bool} {d : Nat} {v : Value} (ht : P.underlying t = some .string) (w : World) : (Instr.checkKey e (d + 1) t v).run P w = .ok () w := by
  simp [Instr.checkKey, run_underlying ht]
theorem chkS {t : TypeId} {fs : Array Field} {e : Bool} {d : Nat} {cs : Array Value} (ht : P.underlying t = some (.struct fs)) (h : ChkF P e d cs fs.toList) (w : World) : (Instr.checkKey e (d + 1) t (.agg cs)).run P w = .ok () w := by
  simp only [Instr.checkKey, Sem.run_bind, run_underlying ht, Result.andThen_ok]
  rw [← Array.forIn_toList]
  clear ht
  generalize fs.toList = l at h ⊢
  induction l with
  | nil => simp
  | cons f fs ih =>
    obtain ⟨⟨v, h1, h2⟩, h3⟩ := h
    simp only [List.forIn_cons, Sem.run_bind, Sem.run_ite]
    split
    · simp only [Sem.run_bind, h1, h2, Result.andThen_ok, Sem.run_pure]
      exact ih h3
    · simp only [Sem.run_pure, Result.andThen_ok]
      exact ih h3
end
end Cp
