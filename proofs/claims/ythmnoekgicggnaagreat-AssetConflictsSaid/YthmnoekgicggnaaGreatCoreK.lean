/-
  Literals, nil, parts of arrays; results of functions that turn memory; words on memory with something unknown in it.
-/
import Derived.Test.YthmnoekgicggnaaGreatCoreJ
import Derived.Great.BuildSlice
import Derived.Great.FillDense
import Derived.Lib.SliceRun
namespace Cp
open Go Go.RowKit Go.Great

section
variable {P : Program} {E : Env} {I : Asn} {o : Oper}

/-- A slice against nil. -/
theorem ok_eqnil {t e : TypeId} {u : TypeId} {x : Operand} {sz : Nat} {rows : List (List Pr)} (ho : o.op = .binOp .eql t x (.const (.slice none 0 0)) u) (ht : P.underlying t = some (.slice e)) (hx : VL E x (slice sz rows)) :
    OpOK P I o E (ex fun b : Bool => fact (b = true → rows = []) (bool b)) :=
  OpOK.same fun M w a he _ => by
    obtain ⟨A, c, h1, h2, _, h3, _⟩ := hx.ev he (by simp [ho, Op.operands])
    refine ⟨.bool A.isNone, ?_, A.isNone, ?_, rfl⟩
    · have h5 : a.eval (.const (.slice none 0 0)) = .slice none 0 0 := rfl
      simp only [execOp, ho, h1, h5]
      simp [eqGuard, Lib.run_eql_slice_nil w t e A _ _ _ _ ht]
    · intro hA
      cases A with
      | none => have := h3 rfl; exact List.eq_nil_of_length_eq_zero (by omega)
      | some a => cases hA

theorem ok_ltr {t u : TypeId} {x y : Operand} {s s' : ByteArray} (ho : o.op = .binOp .eql t x y u) (hx : VL E x (is (.string s))) (hy : VL E y (is (.string s'))) : OpOK P I o E (bool (s.toList == s'.toList)) :=
  OpOK.same fun M w a he _ => by
    have h1 : a.eval x = .string s := hx.ev he (by simp [ho, Op.operands])
    have h2 : a.eval y = .string s' := hy.ev he (by simp [ho, Op.operands])
    exact ⟨_, by simp [execOp, ho, h1, h2, eqGuard, binOp, Op.stringOp], rfl⟩

/-- The operands, each with its row of cells. -/
def ValR (E : Env) (sz : Nat) : List Operand → List (List Pr) → Prop
  | [], [] => True
  | x :: xs, row :: rows => (row.length = sz ∧ VL E x (cellsP row)) ∧ ValR E sz xs rows
  | _, _ => False
theorem ValR.ev {M : Av} {w : World} {a : Act} {sz : Nat} (he : EnvFor M w E o a) : ∀ {xs : List Operand} {rows : List (List Pr)}, (∀ x ∈ xs, x ∈ o.op.operands.toList) → ValR E sz xs rows →
    xs.length = rows.length ∧ (∀ x ∈ xs, (a.eval x).cells.size = sz) ∧ Flat M w sz rows ((xs.map a.eval).flatMap fun v => v.cells.toList)
  | [], [], _, _ => ⟨rfl, fun _ h => by simp at h, by simp, fun _ h => by simp at h, fun _ _ h => by simp at h⟩
  | [], _ :: _, _, h => h.elim
  | _ :: _, [], _, h => h.elim
  | x :: xs, row :: rows, hm, h => by
    obtain ⟨⟨hl, hx⟩, hr⟩ := h
    obtain ⟨h1, h2, h3⟩ := ValR.ev he (fun y hy => hm y (by simp [hy])) hr
    obtain ⟨h4, h5⟩ := hx.ev he (hm x (by simp))
    have hsz : (a.eval x).cells.size = sz := by rw [← hl, ← h4.length]; simp
    refine ⟨by simp [h1], fun y hy => by rcases List.mem_cons.1 hy with rfl | hy; exact hsz; exact h2 y hy, ?_⟩
    have h0 : Flat M w sz [row] (a.eval x).cells.toList := ⟨by simp [hsz], h5, fun i r hi => by
      cases i with
      | zero => simp at hi; subst hi; exact ⟨hl, fun j p hp => by simpa using h4.at_ j p hp⟩
      | succ i => simp at hi⟩
    simpa using h0.app h3

theorem ok_buildSlice {t e : TypeId} {sz : Nat} {zs : List Value} {xs : List Operand} {parts : Array (Nat × Operand)} {rows : List (List Pr)} (ho : o.op = .buildSlice t xs.length parts) (hp : parts.toList = (xs.zipIdx 0).map fun x => (x.2, x.1))
    (ht : P.underlying t = some (.slice e)) (hz : sizeB P e = some sz) (hze : zeroB P e = some zs) (hzl : zs.length = sz) (hsz : 0 < sz) (hx : ValR E sz xs rows) (hsmall : xs.length * sz ≤ 16777216) : OpOK P I o E (full sz rows) :=
  OpOK.val fun M w a he hI => by
    have hops : ∀ x ∈ xs, x ∈ o.op.operands.toList := by
      intro x hx
      simp only [ho, Op.operands, List.mem_map]
      obtain ⟨i, hi, rfl⟩ := List.mem_iff_getElem.1 hx
      exact ⟨(i, xs[i]), by rw [hp]; exact List.mem_map.2 ⟨(xs[i], i), by rw [List.mem_zipIdx_iff_getElem?]; simp [hi], rfl⟩, rfl⟩
    obtain ⟨h1, h2, h3⟩ := hx.ev he hops
    have hz0 := hz
    unfold sizeB at hz
    unfold zeroB at hze
    cases hi : P.info? e with
    | none => rw [hi] at hz; cases hz
    | some i =>
      rw [hi] at hz hze
      simp only [Option.map_some, Option.some.injEq, Option.map_eq_some_iff] at hz hze
      obtain ⟨z, hzz, hze⟩ := hze
      have hzc : z.cells.size = sz := by rw [← hzl, ← hze]; simp
      have hparts : (parts.map fun (i, x) => (i, a.eval x)).toList = ((xs.map a.eval).zipIdx 0).map fun x => (x.2, x.1) := by
        rw [Array.toList_map, hp, List.map_map, List.zipIdx_map, List.map_map]
        rfl
      by_cases h0 : xs.length = 0
      · have hx0 : xs = [] := List.eq_nil_of_length_eq_zero h0
        subst hx0
        have hr0 : rows = [] := List.eq_nil_of_length_eq_zero h1.symm
        subst hr0
        refine ⟨.slice (some ⟨w.heap.size, 0, none⟩) 0 0, w.alloc (.cells #[] e), ?_, ⟨⟨_, 0, rfl, Nat.le_refl _, Nat.zero_le _, fun _ => rfl, fun i row h => by simp at h⟩, _, rfl⟩, (Below.refl _ _).alloc (Nat.le_refl _) _⟩
        have hp0 : parts = #[] := by cases parts; simp at hp; simp [hp]
        have he0 : (Array.map (fun _ => (default : Value)) (Array.range 0)) = #[] := by simp
        simp [execOp, ho, hp0, Instr.buildSlice, run_underlying ht, Go.sizeOf, typeInfo, hi, Instr.fill, newRow]
        exact congrArg (fun c => w.alloc (Obj.cells c e)) he0
      · have hfill := fill_whole (s := i.size) (by rw [hz]; exact hsz) (xs.map a.eval) ((Array.range (xs.length * i.size)).map (z.cells[· % z.cells.size]!)) (fun v hv => by
          obtain ⟨x, hx, rfl⟩ := List.mem_map.1 hv
          rw [hz]; exact h2 x hx) (by simp)
        have hpos : ¬ xs.length * i.size = 0 := by rw [hz]; exact Nat.ne_of_gt (Nat.mul_pos (by omega) hsz)
        have hrun := run_buildSlice (P := P) w t e xs.length (parts.map fun (i, x) => (i, a.eval x)) _ i z ht hi hzz (by rw [hz]; omega) hpos (by rw [hparts]; exact hfill)
        refine ⟨.slice (some ⟨w.heap.size, 0, none⟩) xs.length xs.length, w.alloc (.cells ((xs.map a.eval).flatMap fun v => v.cells.toList).toArray e), by simp [execOp, ho, hrun], ?_, (Below.refl _ _).alloc (Nat.le_refl _) _⟩
        have hb : Below w.heap.size w (w.alloc (.cells ((xs.map a.eval).flatMap fun v => v.cells.toList).toArray e)) := (Below.refl _ _).alloc (Nat.le_refl _) _
        have hlen : rows.length ≤ maxLen := by
          have : xs.length * 1 ≤ xs.length * sz := Nat.mul_le_mul_left _ hsz
          unfold maxLen; omega
        rw [h1]
        refine ⟨slice_of_flat (h3.st (Ext.below hb)) (Nat.le_refl _) hlen (fun k u hk => ⟨?_, fun hx => ?_⟩), _, rfl⟩
        · rw [cell_new]; simpa using hk
        · have := I.bd _ _ hI _ _ hx; omega

/-! ### Struct and array literals -/
def spliceP (cells : List Pr) (off : Nat) (row : List Pr) : List Pr := cells.take off ++ row ++ cells.drop (off + row.length)
def fillP (place : Nat → Option (Nat × Nat)) (cells : List Pr) : List (Nat × List Pr) → Option (List Pr)
  | [] => some cells
  | (i, row) :: rest => match place i with
    | none => none
    | some (off, size) => if row.length = size ∧ off + row.length ≤ cells.length then fillP place (spliceP cells off row) rest else none

def ValF (E : Env) : List (Nat × Operand) → List (Nat × List Pr) → Prop
  | [], [] => True
  | (i, x) :: xs, (j, row) :: rows => (i = j ∧ VL E x (cellsP row)) ∧ ValF E xs rows
  | _, _ => False

theorem fill_hl {M : Av} {w : World} {a : Act} (he : EnvFor M w E o a) {place : Nat → Option (Nat × Nat)} : ∀ {xs : List (Nat × Operand)} {rows : List (Nat × List Pr)} {cps : List Pr} {cells : Array Value} {qs : List Pr}, (∀ x ∈ xs, x.2 ∈ o.op.operands.toList) → ValF E xs rows →
    HL M w cps cells.toList → (∀ c ∈ cells.toList, c.oneCell' = true) → fillP place cps rows = some qs →
    ∃ r : Array Value, Instr.fill place cells (xs.map fun x => (x.1, a.eval x.2)) = some r ∧ HL M w qs r.toList ∧ ∀ c ∈ r.toList, c.oneCell' = true
  | [], [], cps, cells, qs, _, _, hc, h1, hq => by
    simp only [fillP, Option.some.injEq] at hq
    subst hq
    exact ⟨cells, rfl, hc, h1⟩
  | [], _ :: _, _, _, _, _, h, _, _, _ => h.elim
  | _ :: _, [], _, _, _, _, h, _, _, _ => h.elim
  | (i, x) :: xs, (j, row) :: rows, cps, cells, qs, hm, h, hc, h1, hq => by
    obtain ⟨⟨rfl, hx⟩, hr⟩ := h
    obtain ⟨h4, h5⟩ := hx.ev he (hm (i, x) (by simp))
    have hvl : (a.eval x).cells.size = row.length := by rw [← h4.length]; simp
    have hcl : cells.size = cps.length := by rw [← hc.length]; simp
    unfold fillP at hq
    cases hp : place i with
    | none => rw [hp] at hq; cases hq
    | some os =>
      obtain ⟨off, size⟩ := os
      rw [hp] at hq
      simp only at hq
      split at hq
      · rename_i hcond
        obtain ⟨hc1, hc2⟩ := hcond
        have hfs := foldl_set off (a.eval x).cells.toList 0 cells
        generalize hr' : ((a.eval x).cells.toList.zipIdx 0).foldl (fun cs (x : Value × Nat) => cs.setIfInBounds (off + x.2) x.1) cells = r at hfs
        obtain ⟨hs, hk⟩ := hfs
        have hrl : r.toList = cells.toList.take off ++ (a.eval x).cells.toList ++ cells.toList.drop (off + row.length) := by
          apply List.ext_getElem?
          intro k
          rw [Array.getElem?_toList, hk k]
          simp only [Nat.add_zero, Array.length_toList, hvl]
          by_cases h6 : k < off
          · rw [if_neg (by omega), List.append_assoc, List.getElem?_append_left (by simp; omega), List.getElem?_take, if_pos h6, Array.getElem?_toList]
          · by_cases h7 : k < off + row.length
            · rw [if_pos (by omega), List.append_assoc, List.getElem?_append_right (by simp; omega), List.getElem?_append_left (by simp; omega)]
              congr 1; simp; omega
            · rw [if_neg (by omega), List.getElem?_append_right (by simp; omega), List.getElem?_drop, Array.getElem?_toList]
              congr 1; simp; omega
        have hcs : HL M w (spliceP cps off row) r.toList := by
          rw [hrl]; unfold spliceP
          exact ((hc.take off).app h4).app (hc.drop _)
        have h1' : ∀ c ∈ r.toList, c.oneCell' = true := by
          intro c hmem
          rw [hrl] at hmem
          simp only [List.mem_append] at hmem
          rcases hmem with (hmem | hmem) | hmem
          · exact h1 c (List.mem_of_mem_take hmem)
          · exact h5 c hmem
          · exact h1 c (List.mem_of_mem_drop hmem)
        obtain ⟨r2, hr2, h8, h9⟩ := fill_hl he (fun y hy => hm y (by simp [hy])) hr hcs h1' hq
        refine ⟨r2, ?_, h8, h9⟩
        simp only [List.map_cons, Instr.fill, hp]
        rw [if_neg (by simp [hvl, hcl]; omega)]
        rw [← hr2, ← hr']
        congr 1
        rw [← Array.foldl_toList]
        simp [Array.toList_zipIdx]
      · cases hq

theorem ok_build {t : TypeId} {parts : Array (Nat × Operand)} {place : Nat → Option (Nat × Nat)} {zs : List Value} {rows : List (Nat × List Pr)} {qs : List Pr} (ho : o.op = .build t parts) (hb : ∀ ps, P.built t ps = Instr.fill place zs.toArray ps) (hz1 : zs.all (·.oneCell') = true)
    (hx : ValF E parts.toList rows) (hq : fillP place (zs.map is) rows = some qs) : OpOK P I o E (agg qs) :=
  OpOK.same fun M w a he _ => by
    obtain ⟨r, hr, h1, h2⟩ := fill_hl (cells := zs.toArray) he (fun x hx => by simp only [ho, Op.operands, List.mem_map]; exact ⟨x, hx, rfl⟩) hx (by simpa using hl_is M w zs) (by simpa using fun c hc => List.all_eq_true.1 hz1 c hc) hq
    have hrun := run_build (P := P) w t (parts.map fun (i, x) => (i, a.eval x)) r (by rw [hb, ← hr]; congr 1; simp)
    exact ⟨.agg r, by simp [execOp, ho, hrun], r.toList, by simp, h2, h1⟩

/-- The first h cells of an array of one-cell elements, as a slice. -/
theorem ok_sliceArr {t e : TypeId} {x y : Operand} {len : Nat} {h : Int} {ps : List Pr} (ho : o.op = .slice t x none (some y) none) (ht : P.underlying t = some (.array len e)) (hz : sizeB P e = some 1) (hx : VL E x (ref ps)) (hy : VL E y (int h)) (h0 : 0 ≤ h) (hl : h ≤ len) (hpl : h ≤ ps.length) (hlen : len ≤ maxLen) :
    OpOK P I o E (slice 1 ((ps.take h.toNat).map ([·]))) :=
  OpOK.same fun M w a he _ => by
    obtain ⟨ad, h1, h2⟩ := hx.ev he (by simp [ho, Op.operands])
    have h3 : a.eval y = .int .i64 h := hy.ev he (by simp [ho, Op.operands])
    have hn : ((ps.take h.toNat).map ([·])).length = h.toNat := by simp; omega
    refine ⟨.slice (some ad) h.toNat len, ?_, some ad, len, by rw [hn], by rw [hn]; omega, hlen, (fun h => by cases h), fun i row hr => ?_⟩
    · simp [execOp, ho, h1, h3, Instr.sliceAt, run_underlying ht, Instr.sureAddr, Instr.sliceBounds, Instr.sliceBound, asIntOf, h0, hl, run_size hz, Addr.add]
    · rw [List.getElem?_map] at hr
      cases hp : (ps.take h.toNat)[i]? with
      | none => rw [hp] at hr; cases hr
      | some p =>
        rw [hp] at hr
        simp only [Option.map_some, Option.some.injEq] at hr
        subst hr
        refine ⟨rfl, ad, rfl, fun j q hq => ?_⟩
        cases j with
        | zero =>
          simp at hq; subst hq
          rw [List.getElem?_take] at hp
          split at hp
          · simpa using h2 i p hp
          · cases hp
        | succ j => simp at hq
end

/-! ### Something unknown in it -/
section
variable {P : Program} {n : Nat} {E : Env} {I : Asn} {M0 : Av} {w0 : World} {S : Nat → Prop} {rs : List Res}

/-- A block of cells that reads as one of a family. -/
def cellsEx {α : Type} (new : Bool) (b : Nat) (T : TypeId) (φ : α → Prop) (g : α → List Pr) : Res where
  blk := some b
  new := new
  h M w := ∃ x, φ x ∧ (cellsRes new b T (g x)).h M w
  st _M _w _M' _w' he hk h := let ⟨x, h1, h2⟩ := h; ⟨x, h1, (cellsRes new b T (g x)).st _ _ _ _ he hk h2⟩

theorem HpH.swap1 {i : Nat} {r r' : Res} {M : Av} {w : World} (h : HpH M0 w0 S rs M w) (hi : rs[i]? = some r) (hb : r'.blk = r.blk) (hn : r'.new = r.new) (hh : r'.h M w) : HpH M0 w0 S (rs.set i r') M w := by
  have hil : i < rs.length := by rcases Nat.lt_or_ge i rs.length with h | h; exact h; rw [List.getElem?_eq_none h] at hi; cases hi
  have h1 := HpH.perm (perm_at hi) h
  refine HpH.perm (perm_set hil) ⟨h1.m0, h1.m, h1.os, h1.tape, h1.output, h1.size, h1.block, h1.bd, fun q hq => ?_, ?_⟩
  · rcases List.mem_cons.1 hq with rfl | hq
    · exact ⟨hh, fun b hbk => by rw [hn]; exact (h1.hold r (by simp)).2 b (by rw [← hb]; exact hbk)⟩
    · exact h1.hold q (by simp [hq])
  · obtain ⟨h2, h3⟩ := List.pairwise_cons.1 h1.nd
    exact List.Pairwise.cons (fun q hq b hbk => h2 q hq b (by rw [← hb]; exact hbk)) h3

theorem Tr.openR {α : Type} {Q : Exit → Act → World → Prop} {c : Code} (i : Nat) {new : Bool} {b : Nat} {T : TypeId} {φ : α → Prop} {g : α → List Pr} (hi : rs[i]? = some (cellsEx new b T φ g)) (k : ∀ x, φ x → Tr P n E (Hp M0 w0 S (rs.set i (cellsRes new b T (g x)))) c Q) :
    Tr P n E (Hp M0 w0 S rs) c Q := by
  rintro a w ⟨M, h1, h2, h3, h4⟩
  have h4 : HpH M0 w0 S rs M w := h4
  obtain ⟨x, hx, hh⟩ := (h4.hold _ (List.mem_of_getElem? hi)).1
  exact k x hx a w ⟨M, h1, h2, h3, h4.swap1 hi rfl rfl hh⟩
theorem St.closeR {α : Type} (i : Nat) {new : Bool} {b : Nat} {T : TypeId} {φ : α → Prop} {g : α → List Pr} (x : α) (hφ : φ x) {ps : List Pr} (hi : rs[i]? = some (cellsRes new b T ps)) (hg : ps = g x) {a : Act} {w : World} (h : St n E (Hp M0 w0 S rs) a w) : St n E (Hp M0 w0 S (rs.set i (cellsEx new b T φ g))) a w := by
  obtain ⟨M, h1, h2, h3, h4⟩ := h
  have h4 : HpH M0 w0 S rs M w := h4
  subst hg
  exact ⟨M, h1, h2, h3, h4.swap1 hi rfl rfl ⟨x, hφ, (h4.hold _ (List.mem_of_getElem? hi)).1⟩⟩
theorem Tr.closeR {α : Type} {Q : Exit → Act → World → Prop} {c : Code} (i : Nat) {new : Bool} {b : Nat} {T : TypeId} (φ : α → Prop) (g : α → List Pr) (x : α) (hφ : φ x) {ps : List Pr} (hi : rs[i]? = some (cellsRes new b T ps)) (hg : ps = g x)
    (k : Tr P n E (Hp M0 w0 S (rs.set i (cellsEx new b T φ g))) c Q) : Tr P n E (Hp M0 w0 S rs) c Q := Tr.conv (fun _ _ h => h.closeR i x hφ hi hg) k
theorem Fin.closeR {α : Type} {Q : Exit → Act → World → Prop} {e : Exit} (i : Nat) {new : Bool} {b : Nat} {T : TypeId} (φ : α → Prop) (g : α → List Pr) (x : α) (hφ : φ x) {ps : List Pr} (hi : rs[i]? = some (cellsRes new b T ps)) (hg : ps = g x)
    (k : Fin n E (Hp M0 w0 S (rs.set i (cellsEx new b T φ g))) Q e) : Fin n E (Hp M0 w0 S rs) Q e := Fin.conv (fun _ _ h => h.closeR i x hφ hi hg) k

theorem Tr.addnil {Q : Exit → Act → World → Prop} {c : Code} (e : TypeId) (sz : Nat) (k : Tr P n E (Hp M0 w0 S (appRes e sz (.slice none 0 0) :: rs)) c Q) : Tr P n E (Hp M0 w0 S rs) c Q :=
  Tr.conv (fun _ _ ⟨M, h1, h2, h3, h4⟩ => ⟨M, h1, h2, h3, HpH.add0 h4 rfl (by intro a n c hv; cases hv)⟩) k
theorem Fin.addnil {Q : Exit → Act → World → Prop} {ex : Exit} (e : TypeId) (sz : Nat) (k : Fin n E (Hp M0 w0 S (appRes e sz (.slice none 0 0) :: rs)) Q ex) : Fin n E (Hp M0 w0 S rs) Q ex :=
  Fin.conv (fun _ _ ⟨M, h1, h2, h3, h4⟩ => ⟨M, h1, h2, h3, HpH.add0 h4 rfl (by intro a n c hv; cases hv)⟩) k
/-- The same slot, read as less. -/
theorem Tr.re {Q : Exit → Act → World → Prop} {c : Code} (s : Nat) {q p : Pr} (hs : E.lookup s = some q) (hl : Pr.le q p) (k : Tr P n ((s, p) :: E) I c Q) : Tr P n E I c Q := by
  intro a w hst
  obtain ⟨M, h1, h2, he, h4⟩ := hst
  refine k a w ⟨M, h1, h2, ?_, h4⟩
  intro t q' hq
  simp only [List.lookup] at hq
  by_cases ht : t = s
  · subst ht; simp at hq; subst hq; exact hl _ _ _ (he t q hs)
  · rw [show (t == s) = false by simpa using ht] at hq; exact he t q' hq
/-- A new variable that we mean to turn. -/
theorem TO.boxm {Q : Exit → Act → World → Prop} {ops : Array Oper} {o : Oper} {r : List Oper} {d : Nat} {T : TypeId} {x : Operand} {ps : List Pr} (hg : o.guard = none) (hd : o.dst = some d) (hn : d < n) (ho : o.op = .box T x) (hx : VL E x (cellsP ps))
    (k : ∀ b, TO P n ops r ((d, ptr b 0) :: E) (Hp M0 w0 S (cellsRes true b T ps :: rs)) Q) : TO P n ops (o :: r) E (Hp M0 w0 S rs) Q :=
  TO.eff hg fun K M w a hsz hdf he hI hK => by
    obtain ⟨h1, h2⟩ := hx.ev (o := o) (looks_env he) (by simp [ho, Op.operands])
    refine TO.val (v := .pointer (some ⟨w.heap.size, 0, none⟩)) (w' := w.alloc (.cells (a.eval x).cells T)) ?_ ?_
    · simp [execOp, ho, Instr.box, newVar, newRow]
    · obtain ⟨h3, h4⟩ := HpH.add (T := T) hI h1 h2
      have hw : (a.eval x).cells.toList.toArray = (a.eval x).cells := by simp
      rw [hw] at h3 h4
      refine hK _ _ _ _ (k w.heap.size) ⟨_, by rw [put_size]; exact hsz, by rw [put_defers]; exact hdf, ?_, h3⟩
      intro s p hp
      simp only [List.lookup] at hp
      by_cases hs : s = d
      · subst hs; simp at hp; subst hp; rw [hd, put_same (by rw [hsz]; exact hn)]; rfl
      · rw [show (s == d) = false by simpa using hs] at hp
        rw [hd, put_other hs]
        exact p.st _ _ _ _ _ h4 (he s p hp)
theorem TO.ex {Q : Exit → Act → World → Prop} {ops : Array Oper} {l : List Oper} (s : Nat) {α : Type} {p : α → Pr} (hs : E.lookup s = some (Cp.ex p)) (h : ∀ x, TO P n ops l ((s, p x) :: E) I Q) : TO P n ops l E I Q := by
  intro k hl a w hst
  obtain ⟨M, h1, h2, he, h4⟩ := hst
  obtain ⟨x, h6⟩ := he s _ hs
  refine h x k hl a w ⟨M, h1, h2, ?_, h4⟩
  intro t q hq
  simp only [List.lookup] at hq
  by_cases ht : t = s
  · subst ht; simp at hq; subst hq; exact h6
  · rw [show (t == s) = false by simpa using ht] at hq; exact he t q hq
theorem TO.fact {Q : Exit → Act → World → Prop} {ops : Array Oper} {l : List Oper} (s : Nat) {φ : Prop} {p : Pr} (hs : E.lookup s = some (Cp.fact φ p)) (h : φ → TO P n ops l ((s, p) :: E) I Q) : TO P n ops l E I Q := by
  intro k hl a w hst
  obtain ⟨M, h1, h2, he, h4⟩ := hst
  obtain ⟨h5, h6⟩ := he s _ hs
  refine h h5 k hl a w ⟨M, h1, h2, ?_, h4⟩
  intro t q hq
  simp only [List.lookup] at hq
  by_cases ht : t = s
  · subst ht; simp at hq; subst hq; exact h6
  · rw [show (t == s) = false by simpa using ht] at hq; exact he t q hq
/-- What is unknown in a cell gets a name. -/
theorem Tr.openC {α : Type} {Q : Exit → Act → World → Prop} {c : Code} (i k : Nat) {new : Bool} {b : Nat} {T : TypeId} {ps : List Pr} {p : Pr} (q : α → Pr) (hi : rs[i]? = some (cellsRes new b T ps)) (hk : ps[k]? = some p) (hl : Pr.le p (Cp.ex q))
    (h : ∀ x, Tr P n E (Hp M0 w0 S (rs.set i (cellsRes new b T (ps.set k (q x))))) c Q) : Tr P n E (Hp M0 w0 S rs) c Q := by
  rintro a w ⟨M, h1, h2, h3, h4⟩
  have h4 : HpH M0 w0 S rs M w := h4
  obtain ⟨h5, cs, h6, h7, h8⟩ := (h4.hold _ (List.mem_of_getElem? hi)).1
  obtain ⟨v, hv, hh⟩ := h7.at_ k p hk
  obtain ⟨x, hx⟩ := hl _ _ _ hh
  refine h x a w ⟨M, h1, h2, h3, h4.swap1 hi rfl rfl ⟨h5, cs, h6, ?_, h8⟩⟩
  refine HL.of_at (by rw [h7.length]; simp) fun j r u hr hu => ?_
  rw [List.getElem?_set] at hr
  split at hr
  · rename_i e
    subst e
    split at hr
    · simp only [Option.some.injEq] at hr; subst hr; rw [hv] at hu; cases hu; exact hx
    · cases hr
  · obtain ⟨u', hu', hh'⟩ := h7.at_ j r hr
    rw [hu] at hu'; cases hu'; exact hh'

/-! ### Returns of functions that turn memory -/
variable {rs' : List Res} {M1 : Av} {w1 : World} {g : Func}
theorem outM {r : Res} {M : Av} {w : World} (h : HpH M0 w0 S (r :: extRes M1 w1 :: rs) M w) : Ext M1 w1 M w ∧ HpH M0 w0 S (r :: rs) M w :=
  ⟨(h.hold (extRes M1 w1) (by simp)).1, (HpH.perm (List.Perm.swap _ _ _) h).drop1⟩
theorem Fin.retM1 {t : Tmp} {R' : Value → Res} {r : Res} {p q : Pr} (hr : g.results = #[.tmp t]) (h : E.lookup t = some q) (hl : Pr.le q p) (hR : ∀ M w v, q.h M w v → R' v = r) :
    Fin n E (Hp M0 w0 S (r :: extRes M1 w1 :: rs)) (bodyPost P g (BackM M0 w0 S rs M1 w1 p R')) .ret := by
  rintro a w ⟨M, _, hd, he, hi⟩
  obtain ⟨h1, h2⟩ := outM hi
  have hq := he _ _ h
  exact ⟨hd, _, results_one hr _ _, _, M, rfl, hl _ _ _ hq, h1, by rw [hR _ _ _ hq]; exact h2⟩
theorem Fin.retM2 {t u : Tmp} {r : Res} {p q p' q' : Pr} (hr : g.results = #[.tmp t, .tmp u]) (h : E.lookup t = some q) (hl : Pr.le q p) (h' : E.lookup u = some q') (hl' : Pr.le q' p') :
    Fin n E (Hp M0 w0 S (r :: extRes M1 w1 :: rs)) (bodyPost P g (BackM M0 w0 S rs M1 w1 (tup [p, p']) (fun _ => r))) .ret := by
  rintro a w ⟨M, _, hd, he, hi⟩
  obtain ⟨h1, h2⟩ := outM hi
  exact ⟨hd, _, results_two hr _ _, _, M, rfl, ⟨[_, _], rfl, hl _ _ _ (he _ _ h), hl' _ _ _ (he _ _ h'), trivial⟩, h1, h2⟩
/-- A result that lies in a cell of ours. -/
theorem run_cell {t T : TypeId} {m b : Nat} {new : Bool} {ps : List Pr} {M : Av} {w : World} (ht : aggB P t = true) (hz : sizeB P t = some m) (hm : ps.length = m) (h : (cellsRes new b T ps).h M w) : ∃ v, (loadVar t ⟨b, 0, none⟩).run P w = .ok v w ∧ (agg ps).h M w v := by
  obtain ⟨_, cs, h4, h5, h6⟩ := h
  have hl : cs.length = m := by rw [h5.length, hm]
  have hrun : (loadCells ⟨b, 0, none⟩ m).run P w = .ok cs.toArray w := by
    have := run_loadCells_list (P := P) w ⟨b, 0, none⟩ cs (fun k v hv => by
      rw [addr_add]; simp [World.cell?, h4, hv])
    rwa [hl] at this
  exact ⟨.agg cs.toArray, by simp [loadVar, run_isAgg_agg ht, run_size hz, hrun], cs, rfl, h6, h5⟩

end
end Cp
