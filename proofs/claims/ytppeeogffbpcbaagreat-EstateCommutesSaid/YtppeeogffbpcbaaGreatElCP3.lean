/-
  Part 3 of the texts that prove this claim, merged.
-/
import Derived.Lib.Bytealg
import Derived.Test.YtppeeogffbpcbaaGreatRows
import Derived.Test.YtppeeogffbpcbaaGreatElCP2
set_option linter.all false
set_option maxRecDepth 40000
set_option maxHeartbeats 16000000
namespace Cp
open Go Go.RowKit Go.Great
section
variable {P : Program} {E : Env} {I : Asn} {o : Oper}
theorem ok_idxbyte {f : FuncId} {fn : Func} {x y : Operand} {ts : Array TypeId} {a : List UInt8} {c : UInt8} (ho : o.op = .call { callee := .value (.func f), args := #[x, y], argTypes := ts }) (hf : P.funcs[f]? = some fn) (hname : (fn.name == "runtime.NumGoroutine") = false)
    (hb : fn.body.isNone = true) (hn : Extern.findNext fn = none) (hex : Extern.find fn = some Extern.BytealgIndexByte.indexByte) (hx : VL E x (str a)) (hy : VL E y (is (.int .u8 ((c.toNat : Nat) : Int)))) : OpOK P I o E (int (Lib.indexByte a c)) :=
  OpOK.same fun M w ac he _ => by
    have h1 : ac.eval x = _ := hx.ev he (by simp [ho, Op.operands, Call.operands])
    have h2 : ac.eval y = _ := hy.ev he (by simp [ho, Op.operands, Call.operands])
    have h3 : ac.eval (.func f) = .func (.func f) #[] #[] := rfl
    refine ⟨_, ?_, rfl⟩
    have hrun : (execOp ac.eval o).run P w = (callFunc f #[ac.eval x, ac.eval y]).run P w := by simp [execOp, ho, resolve, Deferred.ofValue, invoke, h3]
    rw [hrun, h1, h2, run_callFunc_extern hf hname hb hn hex, Lib.run_indexByteString]
    simp
section
variable {n : Nat} {M0 : Av} {w0 : World} {S : Nat → Prop}
/-- A literal whose elements are ours. -/
theorem ef_buildM {t e : TypeId} {sz d j : Nat} {zs : List Value} {xs : List Operand} {parts : Array (Nat × Operand)} {rows : List (List Pr)} (hg : o.guard = none) (hd : o.dst = some d) (hn : d < n) (ho : o.op = .buildSlice t xs.length parts) (hp : parts.toList = (xs.zipIdx 0).map fun x => (x.2, x.1))
    (ht : P.underlying t = some (.slice e)) (hz : sizeB P e = some sz) (hze : zeroB P e = some zs) (hzl : zs.length = sz) (hsz : 0 < sz) (hx : ValR E sz xs rows) (hsmall : xs.length * sz ≤ 16777216) (hpos0 : 0 < xs.length) : OpEf P M0 w0 S n j (SR.c noRes) ⟨d, mutRes e sz rows⟩ o E (lens rows.length) := by
  refine ⟨hg, fun M w a rs hszn he hI hj => ?_⟩
  have hops : ∀ x ∈ xs, x ∈ o.op.operands.toList := by
    intro x hx
    simp only [ho, Op.operands, List.mem_map]
    obtain ⟨i, hi, rfl⟩ := List.mem_iff_getElem.1 hx
    exact ⟨(i, xs[i]), by rw [hp]; exact List.mem_map.2 ⟨(xs[i], i), by rw [List.mem_zipIdx_iff_getElem?]; simp [hi], rfl⟩, rfl⟩
  obtain ⟨h1, h2, h3⟩ := hx.ev he hops
  unfold sizeB at hz
  unfold zeroB at hze
  cases hi : P.info? e with
  | none => rw [hi] at hz; cases hz
  | some i =>
    rw [hi] at hz hze
    simp only [Option.map_some, Option.some.injEq, Option.map_eq_some_iff] at hz hze
    obtain ⟨z, hzz, hze⟩ := hze
    have hzc : z.cells.size = sz := by rw [← hzl, ← hze]; simp
    have hparts : (parts.map fun (i, x) => (i, a.eval x)).toList = ((xs.map a.eval).zipIdx 0).map fun x => (x.2, x.1) := by
      rw [Array.toList_map, hp, List.map_map, List.zipIdx_map, List.map_map]
      rfl
    have hfill := fill_whole (s := i.size) (by rw [hz]; exact hsz) (xs.map a.eval) ((Array.range (xs.length * i.size)).map (z.cells[· % z.cells.size]!)) (fun v hv => by
      obtain ⟨x, hx, rfl⟩ := List.mem_map.1 hv
      rw [hz]; exact h2 x hx) (by simp)
    have hpos : ¬ xs.length * i.size = 0 := by rw [hz]; exact Nat.ne_of_gt (Nat.mul_pos (by omega) hsz)
    have hrun := run_buildSlice (P := P) w t e xs.length (parts.map fun (i, x) => (i, a.eval x)) _ i z ht hi hzz (by rw [hz]; omega) hpos (by rw [hparts]; exact hfill)
    have hrun2 : (execOp a.eval o).run P w = .ok (.value (.slice (some ⟨w.heap.size, 0, none⟩) xs.length xs.length)) (w.alloc (.cells ((xs.map a.eval).flatMap fun v => v.cells.toList).toArray e)) := by simp [execOp, ho, hrun]
    rw [hrun2]
    generalize hcs : (xs.map a.eval).flatMap (fun v => v.cells.toList) = cs at h3 ⊢
    have hb : Below w.heap.size w (w.alloc (.cells cs.toArray e)) := (Below.refl _ _).alloc (Nat.le_refl _) _
    have hlen : rows.length ≤ maxLen := by
      have : xs.length * 1 ≤ xs.length * sz := Nat.mul_le_mul_left _ hsz
      unfold maxLen; omega
    have h4 := Ext.below (M := M) hb
    have hext : Ext M w (fun b o => M b o ∨ b = w.heap.size) (w.alloc (.cells cs.toArray e)) := by
      refine ⟨h4.size, fun a v hc hm => ⟨fun hx => ?_, (h4.keep a v hc hm).2⟩, fun b o ho hp hm => ⟨fun hx => ?_, (h4.obj b o ho hp hm).2⟩⟩
      · rcases hx with hx | hx
        · exact hm hx
        · have := cell_lt hc; omega
      · rcases hx with hx | hx
        · exact hm hx
        · subst hx; simp at ho
    have hs1 : (w.alloc (.cells cs.toArray e)).heap.size = w.heap.size + 1 := by simp
    have hat : (SR.at_ (a.put o.dst (.slice (some ⟨w.heap.size, 0, none⟩) xs.length xs.length)) ⟨d, mutRes e sz rows⟩) = mutRes e sz rows (.slice (some ⟨w.heap.size, 0, none⟩) xs.length xs.length) := by unfold SR.at_ Slot.val; dsimp only; rw [hd, put_same (by rw [hszn]; exact hn)]
    refine ⟨fun b o => M b o ∨ b = w.heap.size, ⟨_, _, by rw [h1]⟩, hext, ?_⟩
    rw [hat]
    refine hI.replace hj hext hb.os hb.tape hb.output (fun k hk _ => hb.block k hk) rfl (fun b o hm _ => .inl hm) (fun b o hx => ?_) ?_ rfl (fun b hbk => ?_)
    · rcases hx with hx | hx
      · have := hI.bd _ _ hx; omega
      · omega
    · refine ⟨w.heap.size, rows.length, [], by rw [h1], Nat.le_refl _, hlen, by simp, fun o => .inr rfl, cs, heap_alloc_new w _, ?_, h3.2.1⟩
      simpa using (h3.st hext).hl hsz
    · have hbk' : some w.heap.size = some b := hbk
      injection hbk' with e1
      subst e1
      exact ⟨by rw [hs1]; omega, .inr (Nat.le_refl _)⟩
end
theorem one_any (p : Pr) [One p] : Pr.le p (cellsP [any]) := fun M w v h => by
  obtain ⟨h1, h2⟩ := one_cellsP p M w v h
  refine ⟨?_, h2⟩
  match v.cells.toList, h1 with
  | [_], _ => exact ⟨trivial, trivial⟩
theorem put_any {ps : List Pr} {off : Nat} (h : ps[off]? = some any) : ps.take off ++ [any] ++ ps.drop (off + 1) = ps := by
  have hl := lt_of_at h
  rw [List.getElem?_eq_getElem hl] at h
  simp only [Option.some.injEq] at h
  conv => rhs; rw [← List.take_append_drop off ps, List.drop_eq_getElem_cons hl, h]
  simp
end
/-- All numbers below n. -/
def allI (p : Nat → Bool) (n : Nat) : Bool := (List.range n).all p
theorem allI_iff {p : Nat → Bool} {n : Nat} : allI p n = true ↔ ∀ j, j < n → p j = true := by unfold allI; simp
theorem allI_end {p : Nat → Bool} {n : Nat} (h : ∀ j, j < n → p j = true) : allI p n = true := allI_iff.2 h
theorem allI_hit {p : Nat → Bool} {n k : Nat} (hk : k < n) (h : p k = false) : allI p n = false := by
  rw [Bool.eq_false_iff]; intro h'; rw [allI_iff.1 h' k hk] at h; cases h
theorem allI_step {p : Nat → Bool} {k : Nat} (h : ∀ j, j < k → p j = true) (hk : p k = true) : ∀ j, j < k + 1 → p j = true := by
  intro j hj
  by_cases e : j = k
  · subst e; exact hk
  · exact h j (by omega)
end Cp
namespace Cp
open Go Go.RowKit Go.Great
section
variable {P : Program} {n : Nat} {I : Asn}
def TurnR (P : Program) (I' : Asn) (M : Av) (w : World) (p : Pr) : Result Next → Prop
  | .ok (.value v) w' => ∃ M', p.h M' w' v ∧ Ext M w M' w' ∧ I'.h M' w'
  | .ok .skip w' => ∃ M', p.h M' w' undef ∧ Ext M w M' w' ∧ I'.h M' w'
  | .ok (.enter f args) w' => Calls P f args w' fun e w'' => ∃ v M', e = .returned v ∧ p.h M' w'' v ∧ Ext M w M' w'' ∧ I'.h M' w''
  | _ => False
def OpTurn (P : Program) (n : Nat) (I I' : Asn) (o : Oper) (E : Env) (p : Pr) : Prop := o.guard = none ∧ ∀ M w (a : Act), a.tmps.size = n → EnvFor M w E o a → I.h M w → TurnR P I' M w p ((execOp a.eval o).run P w)
theorem step_turn {M : Av} {w : World} {o : Oper} {p : Pr} {a : Act} {K : Act → World → Prop} {Q : Exit → Act → World → Prop} {I' : Asn} (h : TurnR P I' M w p ((execOp a.eval o).run P w))
    (k : ∀ v w' M', p.h M' w' v → Ext M w M' w' → I'.h M' w' → K (a.put o.dst v) w') : o.wp P a w K Q := by
  unfold Oper.wp
  generalize (execOp a.eval o).run P w = r at h
  cases r with
  | halt x w' => exact h.elim
  | ok x w' =>
    cases x <;> first | exact h.elim | skip
    case value v => obtain ⟨M', h1, h2, h3⟩ := h; exact k _ _ _ h1 h2 h3
    case skip => obtain ⟨M', h1, h2, h3⟩ := h; exact k _ _ _ h1 h2 h3
    case enter f args =>
      refine h.mono ?_
      rintro e w'' ⟨v, M', rfl, h1, h2, h3⟩
      exact k _ _ _ h1 h2 h3
def ChOne (P : Program) (n : Nat) (I : Asn) (ops : Array Oper) : Nat → List Oper → Env → (Asn → Env → Prop) → Prop
  | _, [], _, _ => False
  | 0, o :: r, E, K => ∃ p I', OpTurn P n I I' o E p ∧ (∀ d, o.dst = some d → d < n) ∧ Ch P n I' ops r (upd o p E) (K I')
  | c + 1, o :: r, E, K => ∃ p, GOK P I ops o E p ∧ (∀ d, o.dst = some d → d < n) ∧ ChOne P n I ops c r (upd o p E) K
theorem ChOne.op {ops : Array Oper} {o : Oper} {r : List Oper} {E : Env} {K : Asn → Env → Prop} {d c : Nat} {p : Pr} (hg : o.guard = none) (hd : o.dst = some d) (hn : d < n) (h : OpOK P I o E p)
    (k : ChOne P n I ops c r ((d, p) :: E) K) : ChOne P n I ops (c + 1) (o :: r) E K :=
  ⟨p, by unfold GOK; rw [hg]; exact h, fun d' hd' => by rw [hd] at hd'; cases hd'; exact hn, by unfold upd; rw [hd]; exact k⟩
theorem ChOne.turn {ops : Array Oper} {o : Oper} {r : List Oper} {E : Env} {K : Asn → Env → Prop} {d : Nat} {p : Pr} (I' : Asn) (hd : o.dst = some d) (hn : d < n) (h : OpTurn P n I I' o E p)
    (k : Ch P n I' ops r ((d, p) :: E) (K I')) : ChOne P n I ops 0 (o :: r) E K :=
  ⟨p, I', h, fun d' hd' => by rw [hd] at hd'; cases hd'; exact hn, by unfold upd; rw [hd]; exact k⟩
def drawOne (l : List Oper) (c : Nat) : Bool :=
  let b := befs l
  drawOk l && decide (c < l.length) && (List.range l.length).all fun i => i == c || (decide (i < c) && (b.getD c 0).testBit i) || (decide (c < i) && (b.getD i 0).testBit c)
theorem drawOne_spec {l : List Oper} {c : Nat} (h : drawOne l c = true) : drawOk l = true ∧ c < l.length ∧ (∀ i, i < c → ((befs l).getD c 0).testBit i = true) ∧ ∀ i, c < i → i < l.length → ((befs l).getD i 0).testBit c = true := by
  unfold drawOne at h
  simp only [Bool.and_eq_true, decide_eq_true_eq] at h
  obtain ⟨⟨h1, h2⟩, h3⟩ := h
  rw [List.all_eq_true] at h3
  refine ⟨h1, h2, fun i hi => ?_, fun i hi hl => ?_⟩
  · have := h3 i (by simp; omega)
    simp at this
    rcases this with (h | h) | h
    · omega
    · exact h.2
    · omega
  · have := h3 i (by simp; omega)
    simp at this
    rcases this with (h | h) | h
    · omega
    · omega
    · exact h.2
theorem cur_stop : ∀ (L : List (Oper × Pr)) (m : Nat) (E : Env) (b : Nat), b ≤ m → cur (fun i => decide (i < b)) m L E = E := by
  intro L
  induction L with
  | nil => intros; rfl
  | cons x L ih => intro m E b hm; obtain ⟨o, p⟩ := x; unfold cur; rw [if_neg (by simp; omega)]; exact ih _ _ _ (by omega)
theorem cho_list {ops : Array Oper} {K : Asn → Env → Prop} : ∀ (c : Nat) (l : List Oper) (k : Nat) (E : Env), ChOne P n I ops c l E K → ∃ (L : List (Oper × Pr)) (I' : Asn), L.map (·.1) = l ∧
    (∀ j o p, L[j]? = some (o, p) → (j ≠ c → GOK P (if j < c then I else I') ops o (cur (fun i => decide (i < k + j)) k L E) p) ∧ (j = c → OpTurn P n I I' o (cur (fun i => decide (i < k + j)) k L E) p) ∧ ∀ d, o.dst = some d → d < n) ∧ K I' (cur (fun _ => true) k L E)
  | _, [], _, _, h => by unfold ChOne at h; exact h.elim
  | 0, o :: l, k, E, h => by
    obtain ⟨p, I', hg, hd, hr⟩ := h
    obtain ⟨L, h1, h2, h3⟩ := ch_list l (k + 1) _ hr
    refine ⟨(o, p) :: L, I', by simp [h1], fun j o' p' hj => ?_, by unfold cur; simpa using h3⟩
    cases j with
    | zero =>
      simp only [List.getElem?_cons_zero, Option.some.injEq, Prod.mk.injEq] at hj
      obtain ⟨rfl, rfl⟩ := hj
      have e0 : decide (k < k + 0) = false := by simp
      refine ⟨fun h => absurd rfl h, fun _ => ?_, hd⟩
      unfold cur
      simp only [e0, Bool.false_eq_true, ↓reduceIte]
      rw [cur_stop L (k + 1) E (k + 0) (by omega)]
      exact hg
    | succ j =>
      have := h2 j o' p' (by simpa using hj)
      have e1 : decide (k < k + 1 + j) = true := by simp; omega
      rw [show k + (j + 1) = k + 1 + j by omega]
      unfold cur
      simp only [e1, ↓reduceIte]
      exact ⟨fun _ => by rw [if_neg (by omega : ¬ j + 1 < 0)]; exact this.1, fun h => absurd h (by omega), this.2⟩
  | c + 1, o :: l, k, E, h => by
    obtain ⟨p, hg, hd, hr⟩ := h
    obtain ⟨L, I', h1, h2, h3⟩ := cho_list c l (k + 1) _ hr
    refine ⟨(o, p) :: L, I', by simp [h1], fun j o' p' hj => ?_, by unfold cur; simpa using h3⟩
    cases j with
    | zero =>
      simp only [List.getElem?_cons_zero, Option.some.injEq, Prod.mk.injEq] at hj
      obtain ⟨rfl, rfl⟩ := hj
      have e0 : decide (k < k + 0) = false := by simp
      refine ⟨fun _ => ?_, fun h => absurd h (by omega), hd⟩
      unfold cur
      rw [if_pos (by omega : 0 < c + 1)]
      simp only [e0, Bool.false_eq_true, ↓reduceIte]
      rw [cur_stop L (k + 1) E (k + 0) (by omega)]
      exact hg
    | succ j =>
      have := h2 j o' p' (by simpa using hj)
      have e1 : decide (k < k + 1 + j) = true := by simp; omega
      rw [show k + (j + 1) = k + 1 + j by omega]
      unfold cur
      simp only [e1, ↓reduceIte]
      refine ⟨fun hne => ?_, fun he => this.2.1 (by omega), this.2.2⟩
      have h4 := this.1 (by omega)
      by_cases hlt : j < c
      · rw [if_pos (by omega : j + 1 < c + 1)]; rwa [if_pos hlt] at h4
      · rw [if_neg (by omega : ¬ j + 1 < c + 1)]; rwa [if_neg hlt] at h4
structure DJ1 (n : Nat) (I I' : Asn) (c : Nat) (L : List (Oper × Pr)) (E : Env) (listed : Array Bool) (a : Act) (w : World) : Prop where
  size : listed.size = L.length
  down : ∀ (i k : Nat) o p, L[i]? = some (o, p) → listed.getD i false = true → edge o k = true → listed.getD k false = true
  st : ∃ M, a.tmps.size = n ∧ a.defers = [] ∧ EnvOK M w (cur (fun i => listed.getD i false) 0 L E) a ∧ (if listed.getD c false then I' else I).h M w
theorem Tr.regOne (hm : P.follows .mixedOrders = true) (c : Nat) {id : Nat} {l : List Oper} {E : Env} {Q : Exit → Act → World → Prop} (hB0 : drawOne l c = true)
    (h : ChOne P n I l.toArray c l E (fun I' E' => ∀ a w, St n E' I' a w → Q .normal a w)) : Tr P n E I (.region id l.toArray true) Q := by
  intro a w hs
  obtain ⟨L, I', h1, h2, h3⟩ := cho_list c l 0 E h
  obtain ⟨hB, hcl, hA, hBc⟩ := drawOne_spec hB0
  have hlen : L.length = l.length := by rw [← h1]; simp
  have hL : ∀ (i : Nat) o, l.toArray[i]? = some o → ∃ p, L[i]? = some (o, p) := by
    intro i o ho
    have : l[i]? = some o := by simpa using ho
    rw [← h1, List.getElem?_map] at this
    cases hx : L[i]? with
    | none => rw [hx] at this; simp at this
    | some x => rw [hx] at this; simp at this; exact ⟨x.2, by rw [← this]⟩
  have hL' : ∀ (i : Nat) o p, L[i]? = some (o, p) → l[i]? = some o := by
    intro i o p hi
    rw [← h1, List.getElem?_map, hi]; rfl
  -- what the check says
  have hB1 : ∀ (i : Nat) o, l[i]? = some o → (∀ e ∈ o.after, Region.binds .any e = true → e.on < i) ∧
      ∀ (k : Nat) q s, l[k]? = some q → k ≠ i → q.dst = some s → o.dst ≠ some s ∧ (s ∈ seen l.toArray o → (k < i ∧ edge o k = true) ∨ (i < k ∧ edge q i = true)) := by
    intro i o ho
    unfold drawOk at hB
    rw [List.all_eq_true] at hB
    have hb := hB (o, i) (by rw [List.mem_zipIdx_iff_getElem?]; exact ho)
    simp only [Bool.and_eq_true] at hb
    refine ⟨fun e he hbd => ?_, fun k q s hk hne hd => ?_⟩
    · have := Array.all_eq_true_iff_forall_mem.1 hb.1 e he
      rw [hbd] at this; simpa using this
    · have := List.all_eq_true.1 hb.2 (q, k) (by rw [List.mem_zipIdx_iff_getElem?]; exact hk)
      simp only [hd, Bool.or_eq_true, Bool.and_eq_true] at this
      rcases this with h | h
      · exact absurd (by simpa using h) hne
      · refine ⟨by simpa using h.1, fun hs => ?_⟩
        rcases h.2 with (h' | h') | h'
        · have hc : (seen l.toArray o).contains s = true := by simpa using hs
          rw [hc] at h'; cases h'
        · exact .inl ⟨by simpa using h'.1, h'.2⟩
        · exact .inr ⟨by simpa using h'.1, h'.2⟩
  refine wp_region_any hm ?_
  -- the induction
  have key : ∀ (fuel : Nat) (listed : Array Bool) (a : Act) (w : World), listed.toList.count false ≤ fuel → DJ1 n I I' c L E listed a w → wpAny P .any l.toArray Q fuel listed a w := by
    intro fuel
    -- all are listed where nothing is ready
    have fin : ∀ (listed : Array Bool) (a : Act) (w : World), DJ1 n I I' c L E listed a w → (∀ i, i < L.length → listed.getD i false = true) → Q .normal a w := by
      intro listed a w hJ hall
      obtain ⟨M, hn, hdf, he, hI⟩ := hJ.st
      rw [hall c (by rw [hlen]; exact hcl)] at hI
      refine h3 a w ⟨M, hn, hdf, ?_, hI⟩
      have : cur (fun i => listed.getD i false) 0 L E = cur (fun _ => true) 0 L E := by
        have : ∀ (L' : List (Oper × Pr)) (k : Nat) (E : Env), k + L'.length ≤ L.length → cur (fun i => listed.getD i false) k L' E = cur (fun _ => true) k L' E := by
          intro L'
          induction L' with
          | nil => intros; rfl
          | cons x L' ih =>
            intro k E hk
            obtain ⟨o, p⟩ := x
            simp only [List.length_cons] at hk
            unfold cur
            rw [hall k (by omega), ih _ _ (by omega)]
        exact this L 0 E (by omega)
      rwa [this] at he
    have ready_nil : ∀ (listed : Array Bool) (a : Act) (w : World), DJ1 n I I' c L E listed a w → Region.ready .any l.toArray listed = [] → ∀ i, i < L.length → listed.getD i false = true := by
      intro listed a w hJ hr i
      induction i using Nat.strongRecOn with
      | _ i ih =>
        intro hi
        cases hli : listed.getD i false with
        | true => rfl
        | false =>
          exfalso
          have hil : i < l.length := by omega
          have hmem : i ∈ Region.ready .any l.toArray listed := by
            refine mem_ready.2 ⟨?_, l[i], by simp [hil], fun e he hb => ?_⟩
            · have : i < listed.size := by rw [hJ.size]; exact hi
              rw [Array.getD_eq_getD_getElem?, Array.getElem?_eq_getElem this] at hli ⊢
              simpa using hli
            · have := (hB1 i l[i] (by simp [hil])).1 e he hb
              exact ih e.on this (by omega)
          rw [hr] at hmem
          cases hmem
    induction fuel with
    | zero =>
      intro listed a w hc hJ
      have hall : ∀ i, i < L.length → listed.getD i false = true := by
        intro i hi
        have hsz := hJ.size
        have h0 : false ∉ listed.toList := by
          have : listed.toList.count false = 0 := by omega
          exact List.count_eq_zero.1 this
        cases hli : listed.getD i false with
        | true => rfl
        | false =>
          exfalso
          have : i < listed.size := by omega
          rw [Array.getD_eq_getD_getElem?, Array.getElem?_eq_getElem this] at hli
          apply h0
          simp at hli
          rw [← hli]
          exact Array.getElem_mem_toList this
      refine ⟨?_, fin listed a w hJ hall⟩
      cases hr : Region.ready .any l.toArray listed with
      | nil => rfl
      | cons i r =>
        exfalso
        have hi : i ∈ Region.ready .any l.toArray listed := by rw [hr]; simp
        obtain ⟨hu, o, ho, _⟩ := mem_ready.1 hi
        obtain ⟨p, hp⟩ := hL i o ho
        have hil : i < L.length := by rcases Nat.lt_or_ge i L.length with h | h; exact h; rw [List.getElem?_eq_none h] at hp; cases hp
        have h5 := hall i hil
        have : i < listed.size := by rw [hJ.size]; exact hil
        rw [Array.getD_eq_getD_getElem?, Array.getElem?_eq_getElem this] at hu h5
        simp at hu h5
        rw [hu] at h5; cases h5
    | succ fuel ih =>
      intro listed a w hc hJ
      refine ⟨fun hr => fin listed a w hJ (ready_nil listed a w hJ hr), fun i hi => ?_⟩
      obtain ⟨hu, o, ho, hall⟩ := mem_ready.1 hi
      obtain ⟨p, hp⟩ := hL i o ho
      have ho' : l[i]? = some o := hL' i o p hp
      have hil : i < L.length := by rcases Nat.lt_or_ge i L.length with h | h; exact h; rw [List.getElem?_eq_none h] at hp; cases hp
      have his : i < listed.size := by rw [hJ.size]; exact hil
      have hu0 : listed.getD i false = false := by
        rw [Array.getD_eq_getD_getElem?, Array.getElem?_eq_getElem his] at hu ⊢; simpa using hu
      have hpre : ∀ k, edge o k = true → listed.getD k false = true := by
        intro k hk
        obtain ⟨e, he, hb, rfl⟩ := edge_spec.1 hk
        exact hall e he hb
      obtain ⟨hgp, hgt, hdn⟩ := h2 i o p hp
      rw [Nat.zero_add] at hgp hgt
      obtain ⟨M, hn, hdf, he, hI⟩ := hJ.st
      -- what is looked at reads as in the text's order
      have hsame : ∀ s, s ∈ seen l.toArray o → (cur (fun j => decide (j < i)) 0 L E).lookup s = (cur (fun j => listed.getD j false) 0 L E).lookup s := by
        intro s hs
        by_cases hw : ∃ k q r, L[k]? = some (q, r) ∧ k ≠ i ∧ q.dst = some s
        · obtain ⟨k, q, r, hk, hki, hd⟩ := hw
          have huniq : ∀ (j : Nat) o' p', L[j]? = some (o', p') → j ≠ k → o'.dst ≠ some s := by
            intro j o' p' hj hjk
            exact ((hB1 j o' (hL' j o' p' hj)).2 k q s (hL' k q r hk) (Ne.symm hjk) hd).1
          rcases ((hB1 i o ho').2 k q s (hL' k q r hk) hki hd).2 hs with ⟨h5, h6⟩ | ⟨h5, h6⟩
          · rw [cur_hit L 0 E k q r hk (by simpa using h5) hd huniq, cur_hit L 0 E k q r hk (by simpa using hpre k h6) hd huniq]
          · have hnk : listed.getD k false = false := by
              cases hlk : listed.getD k false with
              | false => rfl
              | true => have := hJ.down k i q r hk hlk h6; rw [hu0] at this; cases this
            rw [cur_miss L 0 E, cur_miss L 0 E]
            · intro j o' p' hj hsel hd'
              by_cases hjk : j = k
              · subst hjk; rw [Nat.zero_add, hnk] at hsel; cases hsel
              · exact huniq j o' p' hj hjk hd'
            · intro j o' p' hj hsel hd'
              by_cases hjk : j = k
              · subst hjk; simp at hsel; omega
              · exact huniq j o' p' hj hjk hd'
        · rw [cur_miss L 0 E, cur_miss L 0 E]
          · intro j o' p' hj hsel hd'
            by_cases hji : j = i
            · subst hji; rw [Nat.zero_add, hu0] at hsel; cases hsel
            · exact hw ⟨j, o', p', hj, hji, hd'⟩
          · intro j o' p' hj hsel hd'
            by_cases hji : j = i
            · subst hji; simp at hsel
            · exact hw ⟨j, o', p', hj, hji, hd'⟩
      have next : ∀ v w' M', p.h M' w' v → Ext M w M' w' → (if (listed.setIfInBounds i true).getD c false then I' else I).h M' w' → wpAny P .any l.toArray Q fuel (listed.setIfInBounds i true) (a.put o.dst v) w' := by
        intro v w' M' hpv hb hI2
        refine ih _ _ _ ?_ ⟨by simpa using hJ.size, ?_, M', by rw [put_size]; exact hn, by rw [put_defers]; exact hdf, ?_, hI2⟩
        · have h7 : listed.toList[i]? = some false := by
            rw [Array.getElem?_toList, Array.getElem?_eq_getElem his]
            rw [Array.getD_eq_getD_getElem?, Array.getElem?_eq_getElem his] at hu0
            simpa using hu0
          have h8 := count_set h7
          rw [Array.toList_setIfInBounds]
          omega
        · intro j k o' p' hj hlj hek
          have hset : ∀ m, (listed.setIfInBounds i true).getD m false = (if m = i then true else listed.getD m false) := by
            intro m
            rw [Array.getD_eq_getD_getElem?, Array.getElem?_setIfInBounds]
            by_cases hm : i = m
            · subst hm; simp [his]
            · rw [if_neg hm, if_neg (Ne.symm hm), Array.getD_eq_getD_getElem?]
          rw [hset] at hlj ⊢
          by_cases hki : k = i
          · simp [hki]
          · rw [if_neg hki]
            by_cases hji : j = i
            · subst hji
              rw [hp] at hj
              cases hj
              exact hpre k hek
            · rw [if_neg hji] at hlj
              exact hJ.down j k o' p' hj hlj hek
        · -- the environment
          intro s q hq
          have hset : ∀ m, (listed.setIfInBounds i true).getD m false = (if m = i then true else listed.getD m false) := by
            intro m
            rw [Array.getD_eq_getD_getElem?, Array.getElem?_setIfInBounds]
            by_cases hm : i = m
            · subst hm; simp [his]
            · rw [if_neg hm, if_neg (Ne.symm hm), Array.getD_eq_getD_getElem?]
          by_cases hds : o.dst = some s
          · rw [cur_hit L 0 E i o p hp (by rw [Nat.zero_add, hset]; simp) hds
              (fun j o' p' hj hji => ((hB1 j o' (hL' j o' p' hj)).2 i o s ho' (Ne.symm hji) hds).1)] at hq
            cases hq
            rw [hds, put_same (by rw [hn]; exact hdn s hds)]
            exact hpv
          · have hq2 : (cur (fun j => listed.getD j false) 0 L E).lookup s = some q := by
              rw [← hq]
              by_cases hw : ∃ k q r, L[k]? = some (q, r) ∧ q.dst = some s ∧ listed.getD k false = true
              · obtain ⟨k, q', r, hk, hd, hlk⟩ := hw
                have huniq : ∀ (j : Nat) o' p', L[j]? = some (o', p') → j ≠ k → o'.dst ≠ some s := by
                  intro j o' p' hj hjk
                  exact ((hB1 j o' (hL' j o' p' hj)).2 k q' s (hL' k q' r hk) (Ne.symm hjk) hd).1
                rw [cur_hit L 0 E k q' r hk (by simpa using hlk) hd huniq, cur_hit L 0 E k q' r hk (by rw [Nat.zero_add, hset]; split; rfl; exact hlk) hd huniq]
              · rw [cur_miss L 0 E, cur_miss L 0 E]
                · intro j o' p' hj hsel hd'
                  rw [Nat.zero_add, hset] at hsel
                  by_cases hji : j = i
                  · subst hji; rw [hp] at hj; cases hj; exact hds hd'
                  · rw [if_neg hji] at hsel; exact hw ⟨j, o', p', hj, hd', hsel⟩
                · intro j o' p' hj hsel hd'
                  rw [Nat.zero_add] at hsel
                  exact hw ⟨j, o', p', hj, hd', hsel⟩
            have hv := he s q hq2
            have : (a.put o.dst v).tmps.getD s undef = a.tmps.getD s undef := by
              cases hd : o.dst with
              | none => rfl
              | some d => exact put_other (fun e => hds (by rw [hd, e]))
            rw [this]
            exact q.st _ _ _ _ _ hb hv
      have hsetc : (listed.setIfInBounds i true).getD c false = (if c = i then true else listed.getD c false) := by
        rw [Array.getD_eq_getD_getElem?, Array.getElem?_setIfInBounds]
        by_cases hm : i = c
        · subst hm; simp [his]
        · rw [if_neg hm, if_neg (Ne.symm hm), Array.getD_eq_getD_getElem?]
      have hdown : ∀ (j : Nat) o', l[j]? = some o' → listed.getD j false = true → ∀ e ∈ o'.after, Region.binds .any e = true → listed.getD e.on false = true := by
        intro j o' hj hlj e he' hb
        obtain ⟨p', hp'⟩ := hL j o' (by simpa using hj)
        exact hJ.down j e.on o' p' hp' hlj (edge_spec.2 ⟨e, he', hb, rfl⟩)
      have henv : EnvFor M w (cur (fun j => decide (j < i)) 0 L E) o a := fun s q hs hq => by
        rw [hsame s (by unfold seen; simp [hs])] at hq
        exact he s q hq
      unfold wpOp
      rw [ho]
      by_cases hic : i = c
      · obtain ⟨hg0, hg⟩ := hgt hic
        dsimp only
        rw [if_pos (wanted_none hg0)]
        have hlc : listed.getD c false = false := by rw [← hic]; exact hu0
        rw [hlc] at hI
        refine .inl (step_turn (hg M w a hn henv hI) fun v w' M' hv hx hI2 => next v w' M' hv hx ?_)
        rw [hsetc, if_pos hic.symm]; exact hI2
      · have hgpi := hgp hic
        have hlc : listed.getD c false = decide (c < i) := by
          by_cases hlt : i < c
          · rw [decide_eq_false (by omega)]
            cases hlc : listed.getD c false with
            | false => rfl
            | true =>
              exfalso
              obtain ⟨oc, hoc⟩ : ∃ oc, l[c]? = some oc := ⟨l[c]'hcl, List.getElem?_eq_getElem hcl⟩
              have := befs_spec (fun j => listed.getD j false = true) l hdown c oc hoc (fun e he' hb => hdown c oc hoc hlc e he' hb) i (hA i hlt)
              rw [hu0] at this; cases this
          · rw [decide_eq_true (by omega)]
            exact befs_spec (fun j => listed.getD j false = true) l hdown i o ho' (fun e he' hb => hall e (by simpa using he') hb) c (hBc i (by omega) (by omega))
        rw [hlc] at hI
        have hI3 : (if i < c then I else I').h M w := by
          by_cases hlt : i < c
          · rw [decide_eq_false (by omega)] at hI; rw [if_pos hlt]; exact hI
          · rw [decide_eq_true (by omega)] at hI; rw [if_neg hlt]; exact hI
        refine gok_step hgpi henv (fun j want d q hgd hj hq => ?_) hI3 ?_
        · have hds : d ∈ seen l.toArray o := by unfold seen; rw [hgd]; exact List.mem_append.2 (.inr (by show d ∈ ((l.toArray[j]?).bind (·.dst)).toList; rw [hj]; simp))
          rw [hsame d hds] at hq
          exact he d q hq
        · intro v w' hpv hb
          refine next v w' M hpv (Ext.below hb) ?_
          rw [hsetc, if_neg (Ne.symm hic), hlc]
          exact Asn.st _ _ _ _ hb hI
  refine key l.length _ a _ ?_ ⟨by simp [hlen], ?_, ?_⟩
  · simp [List.count_replicate]
  · intro i k o p hp hl
    exfalso
    rw [Array.getD_eq_getD_getElem?, Array.getElem?_replicate] at hl
    split at hl <;> simp at hl
  · obtain ⟨M, hn, hdf, he, hI⟩ := hs
    have hb : Below w.heap.size w { w with drawn := w.drawn + 1 } := ⟨rfl, rfl, rfl, Nat.le_refl _, fun _ _ => rfl⟩
    refine ⟨M, hn, hdf, ?_, ?_⟩
    rotate_left
    · have : (Array.replicate l.toArray.size false).getD c false = false := by rw [Array.getD_eq_getD_getElem?, Array.getElem?_replicate]; split <;> rfl
      rw [this]; exact I.st _ _ _ hb hI
    intro s q hq
    rw [cur_miss L 0 E] at hq
    · exact q.st _ _ _ _ _ (Ext.below hb) (he s q hq)
    · intro j o p hj hsel
      exfalso
      rw [Array.getD_eq_getD_getElem?, Array.getElem?_replicate] at hsel
      split at hsel <;> simp at hsel

def FunD (P : Program) (f : FuncId) (args : List Pr) (pre : List Res) (res : Pr) (post : List Res) : Prop := FunL (α := Unit) P f args pre (fun _ => True) (fun _ => res) (fun _ => post)
section
variable {M0 : Av} {w0 : World} {S : Nat → Prop} {rs : List Res} {E : Env} {o : Oper} {g : Func} {M1 : Av} {w1 : World}
theorem FunD.of {f : FuncId} {c : Code} {ps : List Pr} {pre post : List Res} {res : Pr} (hf : P.funcs[f]? = some g) (hb : g.body = some c) (hname : (g.name == "runtime.NumGoroutine") = false) (hlen : ps.length ≤ g.ntmps)
    (h : ∀ M0 w0 S rs M1 w1, Tr P g.ntmps (penv 0 ps) (Hp M0 w0 S (pre ++ extRes M1 w1 :: rs)) c (bodyPost P g (BackL M0 w0 S rs M1 w1 (fun _ : Unit => True) (fun _ => res) (fun _ => post)))) : FunD P f ps pre res post :=
  FunL.of hf hb hname hlen h
theorem turn_call {f : FuncId} {xs : Array Operand} {ts : Array TypeId} {ps : List Pr} {pre post : List Res} {res : Pr} (rest : List Res) (hg : o.guard = none) (ho : o.op = .call { callee := .value (.func f), args := xs, argTypes := ts }) (hf : FunD P f ps pre res post)
    (hv : Vals E xs.toList ps) (hp : rs.Perm (pre ++ rest)) : OpTurn P n (Hp M0 w0 S rs) (Hp M0 w0 S (post ++ rest)) o E res := by
  refine ⟨hg, fun M w a hsz he hI => ?_⟩
  have hI : HpH M0 w0 S rs M w := hI
  have h1 := Vals.evalFor (o := o) he (xs := xs.toList) (fun x hx => by simp [ho, Op.operands, Call.operands]; exact .inr (by simpa using hx)) hv
  have hrun : (execOp a.eval o).run P w = .ok (.enter f (xs.toList.map a.eval).toArray) w := by
    simp [execOp, ho, resolve, Deferred.ofValue, Act.eval, invoke, run_callFunc hf.1, map_list xs]
  rw [hrun]
  refine (HpH.callL hf hp hI h1).mono ?_
  rintro e w' ⟨v, M', x, rfl, hC, h2, h3, h4⟩
  exact ⟨v, M', rfl, h2, h3, h4⟩
theorem turn_callv {f : FuncId} {cx : Operand} {xs : Array Operand} {ts : Array TypeId} {ps : List Pr} {pre post : List Res} {res : Pr} (rest : List Res) (hg : o.guard = none) (ho : o.op = .call { callee := .value cx, args := xs, argTypes := ts }) (hc : VL E cx (fn (.func f) [])) (hf : FunD P f ps pre res post)
    (hv : Vals E xs.toList ps) (hp : rs.Perm (pre ++ rest)) : OpTurn P n (Hp M0 w0 S rs) (Hp M0 w0 S (post ++ rest)) o E res := by
  refine ⟨hg, fun M w a hsz he hI => ?_⟩
  have hI : HpH M0 w0 S rs M w := hI
  have h1 := Vals.evalFor (o := o) he (xs := xs.toList) (fun x hx => by simp [ho, Op.operands, Call.operands]; exact .inr (by simpa using hx)) hv
  have hcv := hc.ev he (by simp [ho, Op.operands, Call.operands])
  have hrun : (execOp a.eval o).run P w = .ok (.enter f (xs.toList.map a.eval).toArray) w := by
    obtain ⟨cs, h2, hcs⟩ := hcv
    cases cs with
    | nil => simp [execOp, ho, resolve, Deferred.ofValue, h2, invoke, run_callFunc hf.1, map_list xs]
    | cons c cs => exact hcs.elim
  rw [hrun]
  refine (HpH.callL hf hp hI h1).mono ?_
  rintro e w' ⟨v, M', x, rfl, hC, h2, h3, h4⟩
  exact ⟨v, M', rfl, h2, h3, h4⟩
theorem TO.callD {Q : Exit → Act → World → Prop} {ops : Array Oper} {r : List Oper} {f : FuncId} {xs : Array Operand} {ts : Array TypeId} {ps : List Pr} {pre post : List Res} {res : Pr} {d : Nat} (rest : List Res) (hg : o.guard = none) (hd : o.dst = some d) (hn : d < n) (ho : o.op = .call { callee := .value (.func f), args := xs, argTypes := ts }) (hf : FunD P f ps pre res post)
    (hv : Vals E xs.toList ps) (hp : rs.Perm (pre ++ rest)) (k : TO P n ops r ((d, res) :: E) (Hp M0 w0 S (post ++ rest)) Q) : TO P n ops (o :: r) E (Hp M0 w0 S rs) Q :=
  TO.callL rest hg hd hn ho hf hv hp fun _ _ => k
theorem Fin.retD {rv : ResultVar} {q res : Pr} {post rs' : List Res} (hr : g.results = #[rv]) (h : RVal P E rs' rv q) (hl : Pr.le q res) (hp : rs'.Perm (post ++ extRes M1 w1 :: rs)) :
    Fin n E (Hp M0 w0 S rs') (bodyPost P g (BackL M0 w0 S rs M1 w1 (fun _ : Unit => True) (fun _ => res) (fun _ => post))) .ret :=
  Fin.retL1 () hr h trivial hl hp
/-- One that makes something of its own alone is plain. -/
theorem FunM.pure {f : FuncId} {args : List Pr} {res : Pr} {R' : Value → Res} (h : FunM P f args res noRes R') : Fun P f args res := by
  refine ⟨h.1, fun M w vs hb hv => ?_⟩
  refine (h.2 M w noS [] M w vs ((HpH.begin hb).add0 (r := noRes) rfl trivial) hv).mono ?_
  rintro e w' ⟨v, M', rfl, h2, h3, h4⟩
  exact ⟨v, rfl, res.st _ _ _ _ _ (Ext.less h4.m) h2, h4.below⟩
theorem rd_lenW {t e T : TypeId} {x : Operand} {sz j : Nat} {rows : List (List Pr)} {v : Value} (ho : o.op = .call { callee := .builtin .len, args := #[x], argTypes := #[t] }) (ht : P.underlying t = some (.slice e)) (hx : VL E x (is v)) :
    OpRd P M0 w0 S j (SR.c (oweRes T sz rows v)) o E (int ((rows.length : Nat) : Int)) := by
  intro M w a rs he hI hj
  have h1 : a.eval x = v := hx.ev he (by simp [ho, Op.operands, Call.operands])
  have hj' : rs[j]? = some (oweRes T sz rows v) := hj
  have hrun : ∃ A c, v = .slice A rows.length c := by
    rcases (hI.hold _ (List.mem_of_getElem? hj')).1 with ⟨rfl, A, hv⟩ | ⟨b, cap, spare, hv, _⟩
    · exact ⟨_, _, hv⟩
    · exact ⟨_, _, hv⟩
  obtain ⟨A, c, hv⟩ := hrun
  have : (execOp a.eval o).run P w = .ok (.value (.int .i64 ((rows.length : Nat) : Int))) w := by
    simp [execOp, ho, resolve, invoke, builtin, Builtin.len_, h1, hv, run_underlying ht, goInt]
  rw [this]
  exact ⟨rfl, Below.refl _ _⟩
end
end
end Cp
namespace Cp
open Go Go.RowKit Go.Great
section
variable {P : Program} {n : Nat} {E : Env} {M0 : Av} {w0 : World} {S : Nat → Prop} {rs : List Res} {o : Oper}
/-- The last m elements of a block, from the place off on. -/
def tailP (b off m : Nat) : Pr where
  h _ _ u := ∃ o c, u = .slice (some ⟨b, o, none⟩) m c ∧ (0 < m → o = off)
  st _M _w _M' _w' _v _ h := h
instance one_tailP (b off m : Nat) : One (tailP b off m) := ⟨by rintro M w u ⟨o, c, rfl, _⟩; exact ⟨rfl, rfl⟩⟩
theorem okb_sliceTail {I : Asn} {t e : TypeId} {x y : Operand} {k : IntKind} {l : Int} {sz b m cap : Nat} (ho : o.op = .slice t x (some y) none none) (ht : P.underlying t = some (.slice e)) (hz : sizeB P e = some sz) (hx : VL E x (is (.slice (some ⟨b, 0, none⟩) m cap))) (hy : VL E y (is (.int k l))) (h0 : 0 ≤ l) (hl : l ≤ m) (hc : m ≤ cap) :
    OpOK P I o E (tailP b (l.toNat * sz) (m - l.toNat)) :=
  OpOK.same fun M w a he _ => by
    have h1 : a.eval x = _ := hx.ev he (by simp [ho, Op.operands])
    have h3 : a.eval y = _ := hy.ev he (by simp [ho, Op.operands])
    by_cases hne : cap = l.toNat
    · refine ⟨.slice (some ⟨b, 0, none⟩) (m - l.toNat) (cap - l.toNat), ?_, 0, _, rfl, fun h => by omega⟩
      simp [execOp, ho, h1, h3, Instr.sliceAt, Instr.slice, run_underlying ht, Instr.sliceBounds, Instr.sliceBound, asIntOf, h0, hl, run_size hz, hne]
    · refine ⟨.slice (some ⟨b, l.toNat * sz, none⟩) (m - l.toNat) (cap - l.toNat), ?_, _, _, rfl, fun _ => rfl⟩
      simp [execOp, ho, h1, h3, Instr.sliceAt, Instr.slice, run_underlying ht, Instr.sliceBounds, Instr.sliceBound, asIntOf, h0, hl, run_size hz, hne, addr_add]
/-- append of a later part onto a part of the same block. -/
theorem ef_appTail {t e : TypeId} {x y : Operand} {sz d b k m cap off : Nat} {j : Nat} {new : Bool} {ps ps' : List Pr} (hg : o.guard = none) (hd : o.dst = some d) (hn : d < n) (ho : o.op = .call { callee := .builtin .append, args := #[x, y], argTypes := #[t, t] })
    (ht : P.underlying t = some (.slice e)) (hz : sizeB P e = some sz) (hx : VL E x (is (.slice (some ⟨b, 0, none⟩) k cap))) (hy : VL E y (tailP b off m)) (hroom : k + m ≤ cap) (hl : off + m * sz ≤ ps.length) (hl2 : k * sz + m * sz ≤ ps.length)
    (hps : ps.take (k * sz) ++ (ps.drop off).take (m * sz) ++ ps.drop (k * sz + m * sz) = ps') : OpEf P M0 w0 S n j (SR.c (cellsRes new b e ps)) (SR.c (cellsRes new b e ps')) o E (is (.slice (some ⟨b, 0, none⟩) (k + m) cap)) := by
  refine ⟨hg, fun M w a rs hszn he hI hj => ?_⟩
  have h1 : a.eval x = _ := hx.ev he (by simp [ho, Op.operands, Call.operands])
  obtain ⟨o2, c2, h2, ho2⟩ := hy.ev he (by simp [ho, Op.operands, Call.operands])
  obtain ⟨⟨_, cs, h4, h5, h6⟩, _⟩ := hI.hold _ (List.mem_of_getElem? hj)
  have h5l := h5.length
  have hnl : ((cs.drop off).take (m * sz)).length = m * sz := by rw [List.length_take, List.length_drop]; omega
  unfold sizeB at hz
  cases hi : P.info? e with
  | none => rw [hi] at hz; cases hz
  | some i =>
    rw [hi] at hz
    simp only [Option.map_some, Option.some.injEq] at hz
    have hrun := run_append_room (P := P) (w := w) t o.type e i ht hi b k cap cs.toArray h4 ⟨b, o2, none⟩ m c2 ((cs.drop off).take (m * sz)) (by rw [hz]; exact hnl) (fun q u hk => by
      rw [addr_add]
      rw [List.getElem?_take] at hk
      split at hk
      · rename_i hq
        have hm : 0 < m := by rcases Nat.eq_zero_or_pos m with h | h; subst h; simp at hq; exact h
        have := ho2 hm
        subst this
        rw [List.getElem?_drop] at hk; simp [World.cell?, h4, hk]
      · cases hk) (fun u hu => h6 u (List.mem_of_mem_drop (List.mem_of_mem_take hu))) hroom (by rw [hz, hnl]; simp; omega)
    rw [hz, hnl] at hrun
    obtain ⟨h7, h8⟩ := HpH.write (qs := ps') (cs := cs.take (k * sz) ++ (cs.drop off).take (m * sz) ++ cs.drop (k * sz + m * sz)) hI hj (by rw [← hps]; exact ((h5.take _).app ((h5.drop off).take _)).app (h5.drop _))
      (fun c hc => by
        simp only [List.mem_append] at hc
        rcases hc with (hc | hc) | hc
        · exact h6 c (List.mem_of_mem_take hc)
        · exact h6 c (List.mem_of_mem_drop (List.mem_of_mem_take hc))
        · exact h6 c (List.mem_of_mem_drop hc))
    have hrun2 : (execOp a.eval o).run P w = .ok (.value (.slice (some ⟨b, 0, none⟩) (k + m) cap)) (w.setRow b (cs.take (k * sz) ++ (cs.drop off).take (m * sz) ++ cs.drop (k * sz + m * sz)).toArray) := by
      simp [execOp, ho, resolve, invoke, builtin, h1, h2, hrun]
    rw [hrun2]
    exact ⟨M, rfl, h8, h7⟩
theorem ok_appEE {I : Asn} {t e : TypeId} {x y : Operand} {sz sz1 sz2 : Nat} (ho : o.op = .call { callee := .builtin .append, args := #[x, y], argTypes := #[t, t] }) (ht : P.underlying t = some (.slice e)) (hz : sizeB P e = some sz) (hx : VL E x (full sz1 [])) (hy : VL E y (slice sz2 [])) : OpOK P I o E (full sz []) :=
  OpOK.same fun M w a he _ => by
    obtain ⟨_, A, h1⟩ := hx.ev he (by simp [ho, Op.operands, Call.operands])
    obtain ⟨A', c', h2, _⟩ := hy.ev he (by simp [ho, Op.operands, Call.operands])
    simp only [List.length_nil] at h1 h2
    refine ⟨.slice A 0 0, ?_, void_full sz A M w⟩
    have hrun := run_append_zero (P := P) (ty := o.type) (A := A) (A' := A') (n := 0) (c := 0) (c' := c') ht hz (Nat.le_refl _) w
    simp [execOp, ho, resolve, invoke, builtin, h1, h2, hrun]
end
theorem rep1 {K : Nat} {r : List Pr} (h : K = 1) : (List.replicate K r).flatten = r := by subst h; simp
section
variable {P : Program} {n : Nat} {E : Env} {M0 : Av} {w0 : World} {S : Nat → Prop} {rs : List Res} {o : Oper}
theorem turn_ef {p : Pr} (j : Nat) {R R' : Res} (hR : rs[j]? = some R) (h : OpEf P M0 w0 S n j (SR.c R) (SR.c R') o E p) : OpTurn P n (Hp M0 w0 S rs) (Hp M0 w0 S (rs.set j R')) o E p := by
  refine ⟨h.1, fun M w a hsz he hI => ?_⟩
  have := h.2 M w a rs hsz he hI hR
  generalize (execOp a.eval o).run P w = r at this
  cases r with
  | halt x w' => exact this.elim
  | ok x w' =>
    cases x <;> first | exact this.elim | exact this
end
theorem flat_takeN {β : Type} {f : β → List Pr} {sz : Nat} (hf : ∀ x, (f x).length = sz) : ∀ (l : List β) (i : Nat), ((l.map f).flatten).take (i * sz) = ((l.take i).map f).flatten
  | [], i => by simp
  | a :: l, 0 => by simp
  | a :: l, i + 1 => by
    rw [List.map_cons, List.flatten_cons, List.take_succ_cons, List.map_cons, List.flatten_cons, ← flat_takeN hf l i, List.take_append, hf a, List.take_of_length_le (by rw [hf a, Nat.succ_mul]; omega), Nat.succ_mul, Nat.add_sub_cancel]
theorem flat_dropN {β : Type} {f : β → List Pr} {sz : Nat} (hf : ∀ x, (f x).length = sz) : ∀ (l : List β) (i : Nat), ((l.map f).flatten).drop (i * sz) = ((l.drop i).map f).flatten
  | [], i => by simp
  | a :: l, 0 => by simp
  | a :: l, i + 1 => by
    rw [List.map_cons, List.flatten_cons, List.drop_succ_cons, ← flat_dropN hf l i, List.drop_append, hf a, List.drop_of_length_le (by rw [hf a, Nat.succ_mul]; omega), Nat.succ_mul, Nat.add_sub_cancel]; rfl
theorem flat_insN {β : Type} {f : β → List Pr} {sz : Nat} (hf : ∀ x, (f x).length = sz) {l : List β} {i : Nat} {x : β} : ((l.map f).flatten).take (i * sz) ++ f x ++ ((l.map f).flatten).drop (i * sz) = ((l.take i ++ [x] ++ l.drop i).map f).flatten := by
  rw [flat_takeN hf, flat_dropN hf, List.map_append, List.map_append, List.flatten_append, List.flatten_append, List.map_singleton]; simp
theorem flat_delN {β : Type} {f : β → List Pr} {sz : Nat} (hf : ∀ x, (f x).length = sz) {l : List β} {i : Nat} : ((l.map f).flatten).take (i * sz) ++ ((l.map f).flatten).drop ((i + 1) * sz) = ((l.eraseIdx i).map f).flatten := by
  rw [flat_takeN hf, flat_dropN hf, List.eraseIdx_eq_take_drop_succ, List.map_append, List.flatten_append]
theorem ins_placeZ {A S X B : List Pr} {a z N o1 o2 o3 o4 o5 o6 : Nat} (hA : A.length = N) (ha : a + z ≤ N) (hX : X.length = z) (hS : z ≤ S.length) (h1 : o1 = a + z) (h2 : o2 = a) (h3 : o3 = N - a) (h4 : o4 = a + z + (N - a)) (h5 : o5 = a) (h6 : o6 = a + z) (hB : B = (A.take a ++ X ++ A.drop a) ++ S.drop z) :
    ((A ++ S).take o1 ++ ((A ++ S).drop o2).take o3 ++ (A ++ S).drop o4).take o5 ++ X ++ ((A ++ S).take o1 ++ ((A ++ S).drop o2).take o3 ++ (A ++ S).drop o4).drop o6 = B := by
  rw [h1, h2, h3, h4, h5, h6, hB]
  have e1 : (A ++ S).take (a + z) = A.take a ++ (A.drop a).take z := by rw [List.take_append_of_le_length (by omega), List.take_add]
  have e2 : ((A ++ S).drop a).take (N - a) = A.drop a := by
    rw [List.drop_append_of_le_length (by omega), List.take_append_of_le_length (by rw [List.length_drop]; omega), List.take_of_length_le (by rw [List.length_drop]; omega)]
  have e3 : (A ++ S).drop (a + z + (N - a)) = S.drop z := by
    rw [show a + z + (N - a) = A.length + z by omega, List.drop_append]; simp
  have l1 : (A.take a).length = a := by rw [List.length_take]; omega
  have l2 : ((A.drop a).take z).length = z := by rw [List.length_take, List.length_drop]; omega
  rw [e1, e2, e3]
  have t1 : (A.take a ++ (A.drop a).take z ++ A.drop a ++ S.drop z).take a = A.take a := by
    rw [List.append_assoc, List.append_assoc]; exact List.take_left' l1
  have t2 : (A.take a ++ (A.drop a).take z ++ A.drop a ++ S.drop z).drop (a + z) = A.drop a ++ S.drop z := by
    rw [List.append_assoc]; exact List.drop_left' (by rw [List.length_append]; omega)
  rw [t1, t2]
  simp
theorem ins_grownZ {A S Z X B R : List Pr} {a z N o0 o1 o2 o3 o4 : Nat} (hA : A.length = N) (ha : a ≤ N) (hX : X.length = z) (hZ : N + z - a ≤ Z.length) (h0 : o0 = a) (h1 : o1 = a) (h2 : o2 = a + z) (h3 : o3 = a + z) (h4 : o4 = a + z + (N - a)) (hR : R = A.drop a) (hB : B = (A.take a ++ X ++ A.drop a) ++ Z.drop (N + z - a)) :
    (((A ++ S).take o0 ++ Z).take o1 ++ X ++ ((A ++ S).take o0 ++ Z).drop o2).take o3 ++ R ++ (((A ++ S).take o0 ++ Z).take o1 ++ X ++ ((A ++ S).take o0 ++ Z).drop o2).drop o4 = B := by
  rw [h0, h1, h2, h3, h4, hR, hB]
  have l1 : (A.take a).length = a := by rw [List.length_take]; omega
  have e0 : (A ++ S).take a = A.take a := List.take_append_of_le_length (by omega)
  rw [e0]
  have e1 : (A.take a ++ Z).take a = A.take a := by rw [List.take_append_of_le_length (by omega), List.take_of_length_le (by omega)]
  have e2 : (A.take a ++ Z).drop (a + z) = Z.drop z := by rw [List.drop_append, List.drop_of_length_le (by omega), List.nil_append, l1]; congr 1; omega
  rw [e1, e2]
  have l2 : (A.take a ++ X).length = a + z := by rw [List.length_append]; omega
  have e3 : (A.take a ++ X ++ Z.drop z).take (a + z) = A.take a ++ X := by rw [List.take_append_of_le_length (by omega), List.take_of_length_le (by omega)]
  have e4 : (A.take a ++ X ++ Z.drop z).drop (a + z + (N - a)) = Z.drop (N + z - a) := by
    rw [List.drop_append, List.drop_of_length_le (by omega), List.nil_append, l2, List.drop_drop]; congr 1; omega
  rw [e3, e4]
theorem del_place {A S Z B : List Pr} {a z N o1 o2 o3 o4 o5 o6 : Nat} (hA : A.length = N) (ha : a + z ≤ N) (h1 : o1 = a) (h2 : o2 = a + z) (h3 : o3 = N - (a + z)) (h4 : o4 = N - z) (h5 : o5 = N - z) (h6 : o6 = N) (hB : B = (A.take a ++ A.drop (a + z)) ++ (Z ++ S)) :
    ((A ++ S).take o1 ++ ((A ++ S).drop o2).take o3 ++ (A ++ S).drop o4).take o5 ++ Z ++ ((A ++ S).take o1 ++ ((A ++ S).drop o2).take o3 ++ (A ++ S).drop o4).drop o6 = B := by
  rw [h1, h2, h3, h4, h5, h6, hB]
  have e1 : (A ++ S).take a = A.take a := by rw [List.take_append_of_le_length (by omega)]
  have e2 : ((A ++ S).drop (a + z)).take (N - (a + z)) = A.drop (a + z) := by
    rw [List.drop_append_of_le_length (by omega), List.take_append_of_le_length (by rw [List.length_drop]; omega), List.take_of_length_le (by rw [List.length_drop]; omega)]
  rw [e1, e2]
  have l1 : (A.take a ++ A.drop (a + z)).length = N - z := by rw [List.length_append, List.length_take, List.length_drop]; omega
  have t1 : (A.take a ++ A.drop (a + z) ++ (A ++ S).drop (N - z)).take (N - z) = A.take a ++ A.drop (a + z) := List.take_left' l1
  have t2 : (A.take a ++ A.drop (a + z) ++ (A ++ S).drop (N - z)).drop N = S := by
    rw [List.drop_append, List.drop_of_length_le (by omega), List.nil_append, l1, List.drop_drop, show N - z + (N - (N - z)) = A.length by omega, List.drop_left]
  rw [t1, t2]
  simp
section
variable {P : Program} {n : Nat} {E : Env} {M0 : Av} {w0 : World} {S : Nat → Prop} {rs : List Res}
/-- A slice of ours that a cell of ours holds is turned no more. -/
theorem St.frzWC {i j k sz b : Nat} {new : Bool} {T e : TypeId} {ps : List Pr} {rows : List (List Pr)} {v : Value} {p : Pr} (hi : rs[i]? = some (cellsRes new b T ps)) (hj : rs[j]? = some (oweRes e sz rows v)) (hij : j ≠ i) (hk : ps[k]? = some p) (hp : Pr.le p (is v)) (hl : ∀ r ∈ rows, r.length = sz) {a : Act} {w : World} (h : St n E (Hp M0 w0 S rs) a w) :
    St n E (Hp M0 w0 S ((rs.set j noRes).set i (cellsRes new b T (ps.set k (slice sz rows))))) a w := by
  obtain ⟨M, h1, h2, h3, h4⟩ := h
  have h4 : HpH M0 w0 S rs M w := h4
  have hi' : (rs.set j (oweRes e sz rows v))[i]? = some (cellsRes new b T ps) := by rw [List.getElem?_set_ne hij]; exact hi
  obtain ⟨M', g1, g2, g3⟩ := h4.frzW hj hl
  have gi : (rs.set j noRes)[i]? = some (cellsRes new b T ps) := by rw [List.getElem?_set_ne hij]; exact hi
  refine ⟨M', h1, h2, fun s q hq => q.st _ _ _ _ _ g1 (h3 s q hq), g2.swap1 gi rfl rfl ?_⟩
  obtain ⟨c1, cs, c2, c3, c4⟩ := (g2.hold _ (List.mem_of_getElem? gi)).1
  exact ⟨c1, cs, c2, c3.set hk (fun u hu => by rw [show u = v from hp _ _ _ hu]; exact g3), c4⟩
theorem Tr.frzWC {Q : Exit → Act → World → Prop} {c : Code} (i j k : Nat) {sz b : Nat} {new : Bool} {T e : TypeId} {ps : List Pr} {rows : List (List Pr)} {v : Value} {p : Pr} (hi : rs[i]? = some (cellsRes new b T ps)) (hj : rs[j]? = some (oweRes e sz rows v)) (hij : j ≠ i) (hk : ps[k]? = some p) (hp : Pr.le p (is v)) (hl : ∀ r ∈ rows, r.length = sz)
    (kk : Tr P n E (Hp M0 w0 S ((rs.set j noRes).set i (cellsRes new b T (ps.set k (slice sz rows))))) c Q) : Tr P n E (Hp M0 w0 S rs) c Q := Tr.conv (fun _ _ hs => hs.frzWC hi hj hij hk hp hl) kk
end
theorem row_set {β : Type} {f : β → List Pr} {l : List β} {k q m : Nat} {x : β} {qs : List Pr} (h : l[k]? = some x) (hq : (f x).take q ++ qs ++ (f x).drop (q + m) = f x) : (l.map f).set k ((f x).take q ++ qs ++ (f x).drop (q + m)) = l.map f := by
  rw [hq]
  refine List.ext_getElem? fun i => ?_
  rw [List.getElem?_set]
  by_cases hi : k = i
  · subst hi
    rw [if_pos rfl, List.getElem?_map, h]
    have := lt_of_at h
    rw [if_pos (by rw [List.length_map]; exact this)]; rfl
  · rw [if_neg hi]
theorem row_setI {β : Type} {f : β → List Pr} {l : List β} {k q m : Nat} {x : β} {qs : List Pr} (h : l[k]? = some x) (hq : (f x).take q ++ qs ++ (f x).drop (q + m) = f x) : (l.map f).set ((k : Nat) : Int).toNat ((f x).take q ++ qs ++ (f x).drop (q + m)) = l.map f := by
  rw [Int.toNat_natCast]; exact row_set h hq
end Cp
namespace Cp
open Go Go.RowKit Go.Great
section
variable {P : Program} {n : Nat} {E : Env} {M0 : Av} {w0 : World} {S : Nat → Prop} {rs : List Res} {o : Oper} {g : Func} {M1 : Av} {w1 : World}
/-- One that only reads what is held. -/
theorem FunD.gen {f : FuncId} {args args' : List Pr} {pre : List Res} {res : Pr} [Free res] (hfz : ∀ M0 w0 S rs M w, HpH M0 w0 S (pre ++ rs) M w → ∃ M', Ext M w M' w ∧ HpH M0 w0 S rs M' w ∧ ∀ vs, HL M w args vs → HL M' w args' vs)
    (h : Fun P f args' res) : FunD P f args pre res pre := by
  refine ⟨h.1, fun M0 w0 S rs M w vs hI hv => ?_⟩
  obtain ⟨M', hx, hI', ha⟩ := hfz M0 w0 S rs M w hI
  refine (h.2 M' w vs hI'.bd (ha vs hv)).mono ?_
  rintro e' w' ⟨u, rfl, h2, h3⟩
  exact ⟨u, M, (), rfl, trivial, Free.free _ _ _ _ h2, Ext.below h3, (Hp M0 w0 S _).st _ _ _ h3 hI⟩
theorem Row.hd {M : Av} {w : World} {ad : Addr} {p q : Pr} {ps : List Pr} (h : Row M w ad 0 (p :: ps)) (hq : ∀ u, p.h M w u → q.h M w u) : Row M w ad 0 (q :: ps) := by
  intro j r hr
  cases j with
  | zero =>
    simp at hr; subst hr
    obtain ⟨u, h1, h2, h3, h4⟩ := h 0 p rfl
    exact ⟨u, h1, h2, h3, hq u h4⟩
  | succ j => exact h (j + 1) r (by simpa using hr)
/-- A pointer to what points to what holds a list: all are looked at. -/
theorem FunD.look {f : FuncId} {wb ob : Nat} {WT OT e : TypeId} {wps ops rows ps : List Pr} {rws : List (List Pr)} {sz k : Nat} {v : Value} {res : Pr} [Free res] (hk : ops[k]? = some (is v)) (hl : ∀ r ∈ rws, r.length = sz) (ho : ops.set k (slice sz rws) = rows)
    (h : Fun P f (ref (ref rows :: wps) :: ps) res) : FunD P f (ptr wb 0 :: ps) [cellsRes true wb WT (ptr ob 0 :: wps), cellsRes true ob OT ops, oweRes e sz rws v] res [cellsRes true wb WT (ptr ob 0 :: wps), cellsRes true ob OT ops, oweRes e sz rws v] := by
  refine FunD.gen (fun M0 w0 S rs M w hI => ?_) h
  obtain ⟨Ma, a1, a2⟩ := HpH.frzWC (i := 1) (j := 2) (k := k) hI rfl rfl (by decide) hk hl
  rw [ho] at a2
  have a3 : HpH M0 w0 S (cellsRes true ob OT rows :: cellsRes true wb WT (ptr ob 0 :: wps) :: noRes :: rs) Ma w := HpH.perm (List.Perm.swap _ _ _) a2
  obtain ⟨Mb, b1, b2, b3⟩ := HpH.freeze1 a3
  obtain ⟨Mc, c1, c2, c3⟩ := HpH.freeze1 b1
  refine ⟨Mc, (a1.trans b2).trans c2, c1.drop1, fun vs hv => ?_⟩
  match vs, hv with
  | u0 :: vs1, hv1 =>
    obtain ⟨hu0, hv2⟩ := hv1
    refine ⟨⟨⟨wb, 0, none⟩, hu0, c3.hd fun u hu => ⟨⟨ob, 0, none⟩, hu, b3.st c2⟩⟩, hv2.st ((a1.trans b2).trans c2)⟩
/-- A part of a list, and a function value that looks at memory of ours. -/
theorem FunD.lookPart {f fg : FuncId} {wb : Nat} {WT e : TypeId} {wps : List Pr} {rws : List (List Pr)} {sz k : Nat} {v : Value} {res : Pr} [Free res] (hl : ∀ r ∈ rws, r.length = sz)
    (h : Fun P f [slice sz (rws.drop k), fn (.func fg) [ref [ref wps]]] res) : FunD P f [part sz v k, fn (.func fg) [ref [ptr wb 0]]] [cellsRes true wb WT wps, oweRes e sz rws v] res [cellsRes true wb WT wps, oweRes e sz rws v] := by
  refine FunD.gen (fun M0 w0 S rs M w hI => ?_) h
  obtain ⟨Ma, a1, a2, a3⟩ := HpH.frzW (j := 1) hI rfl hl
  obtain ⟨Mb, b1, b2, b3⟩ := HpH.freeze1 (rs := noRes :: rs) a2
  refine ⟨Mb, a1.trans b2, b1.drop1, fun vs hv => ?_⟩
  match vs, hv with
  | [u0, u1], hv1 =>
    obtain ⟨hu0, hu1, _⟩ := hv1
    refine ⟨part_slice ((slice sz rws).st _ _ _ _ _ b2 a3) ((part sz v k).st _ _ _ _ _ (a1.trans b2) hu0), ?_, trivial⟩
    obtain ⟨cs, rfl, hcs⟩ := hu1
    match cs, hcs with
    | [c0], hc1 =>
      obtain ⟨ad, rfl, hrow⟩ := hc1.1
      exact ⟨_, rfl, ⟨ad, rfl, (hrow.st (a1.trans b2)).hd fun u hu => ⟨⟨wb, 0, none⟩, hu, b3⟩⟩, trivial⟩
theorem ok_index1 {I : Asn} {t e : TypeId} {x y : Operand} {k : IntKind} {i : Int} {len : Nat} {ps : List Pr} {p : Pr} (ho : o.op = .index t x y) (ht : P.underlying t = some (.array len e)) (he : oneB P e = true) (hz : sizeB P e = some 1) (hx : VL E x (agg ps)) (hy : VL E y (is (.int k i))) (h0 : 0 ≤ i) (hl : i < len)
    (hp : ps[i.toNat]? = some p) : OpOK P I o E p :=
  OpOK.same fun M w ac hev _ => by
    obtain ⟨cs, h1, ho1, h2⟩ := hx.ev hev (by simp [ho, Op.operands])
    have h3 : ac.eval y = _ := hy.ev hev (by simp [ho, Op.operands])
    obtain ⟨u, hu, hpu⟩ := h2.at_ i.toNat p hp
    refine ⟨u, ?_, hpu⟩
    simp [execOp, ho, h1, h3, Instr.index, asIntOf, run_underlying ht, h0, hl, run_size hz, Go.part, run_isAgg_one he, hu]
/-- A store beside what hangs on a slot. -/
theorem ef_storeW {t : TypeId} {x y : Operand} {q0 : Tmp} {j : Nat} {new : Bool} {b off m : Nat} {T : TypeId} {ps : Value → List Pr} {qs : List Pr} (hg : o.guard = none) (hd : o.dst = none) (ho : o.op = .store t x y) (hx : VL E x (ptr b off)) (hy : VL E y (cellsP qs))
    (hz : sizeB P t = some m) (hm : qs.length = m) (hl : ∀ v, off + m ≤ (ps v).length) : OpEf P M0 w0 S n j ⟨.one q0, fun v => cellsRes new b T (ps v)⟩ ⟨.one q0, fun v => cellsRes new b T ((ps v).take off ++ qs ++ (ps v).drop (off + m))⟩ o E any := by
  refine ⟨hg, fun M w a rs hsz he hI hj => ?_⟩
  have hj' : rs[j]? = some (SR.at_ a (SR.c (cellsRes new b T (ps (a.tmps.getD q0 undef))))) := hj
  obtain ⟨h1, h2⟩ := ef_store (P := P) (M0 := M0) (w0 := w0) (S := S) (n := n) (j := j) (new := new) (T := T) (ps := ps (a.tmps.getD q0 undef)) (b := b) (off := off) hg ho hx hy hz hm (hl _) rfl
  have h3 := h2 M w a rs hsz he hI hj'
  revert h3
  generalize (execOp a.eval o).run P w = r
  have key : ∀ v, SR.at_ (a.put o.dst v) (SR.c (cellsRes new b T ((ps (a.tmps.getD q0 undef)).take off ++ qs ++ (ps (a.tmps.getD q0 undef)).drop (off + m)))) = SR.at_ (a.put o.dst v) ⟨.one q0, fun v => cellsRes new b T ((ps v).take off ++ qs ++ (ps v).drop (off + m))⟩ := fun v => by rw [hd]; rfl
  intro h3
  cases r with
  | halt x w' => exact h3
  | ok x w' =>
    cases x
    case value v => obtain ⟨M', g1, g2, g3⟩ := h3; exact ⟨M', g1, g2, by rw [← key]; exact g3⟩
    case skip => obtain ⟨M', g1, g2, g3⟩ := h3; exact ⟨M', g1, g2, by rw [← key]; exact g3⟩
    case enter f args =>
      refine Calls.mono h3 ?_
      rintro e w'' ⟨v, M', g0, g1, g2, g3⟩
      exact ⟨v, M', g0, g1, g2, by rw [← key]; exact g3⟩
    all_goals exact h3
theorem TO.re {Q : Exit → Act → World → Prop} {ops : Array Oper} {l : List Oper} {I : Asn} (s : Nat) {q : Pr} (p : Pr) (hs : E.lookup s = some q) (hl : Pr.le q p) (k : TO P n ops l ((s, p) :: E) I Q) : TO P n ops l E I Q := by
  intro m hm a w hst
  refine k m hm a w ?_
  obtain ⟨M, h1, h2, he, h4⟩ := hst
  refine ⟨M, h1, h2, fun s' r hr => ?_, h4⟩
  simp only [List.lookup] at hr
  split at hr
  · rename_i e1
    have : s' = s := by simpa using e1
    subst this
    simp only [Option.some.injEq] at hr
    subst hr
    exact hl _ _ _ (he _ _ hs)
  · exact he _ _ hr
theorem Fin.swap01 {Q : Exit → Act → World → Prop} {x : Exit} {r r' : Res} (k : Fin n E (Hp M0 w0 S (r' :: r :: rs)) Q x) : Fin n E (Hp M0 w0 S (r :: r' :: rs)) Q x :=
  Fin.conv (fun _ _ ⟨M, h1, h2, h3, h4⟩ => ⟨M, h1, h2, h3, HpH.perm (List.Perm.swap _ _ _) h4⟩) k
/-- A function that makes a thing of ours, and what it hands back. -/
def FunV (P : Program) (f : FuncId) (args : List Pr) (res : Value → Pr) (post : Value → List Res) : Prop := FunL (α := Value) P f args [] (fun _ => True) res post
theorem FunV.of {f : FuncId} {c : Code} {ps : List Pr} {res : Value → Pr} {post : Value → List Res} (hf : P.funcs[f]? = some g) (hb : g.body = some c) (hname : (g.name == "runtime.NumGoroutine") = false) (hlen : ps.length ≤ g.ntmps)
    (h : ∀ M0 w0 S rs M1 w1, Tr P g.ntmps (penv 0 ps) (Hp M0 w0 S (extRes M1 w1 :: rs)) c (bodyPost P g (BackL M0 w0 S rs M1 w1 (fun _ : Value => True) res post))) : FunV P f ps res post :=
  FunL.of hf hb hname hlen h
theorem Fin.retV {rv : ResultVar} {q : Pr} {res : Value → Pr} {post : Value → List Res} {rs' : List Res} (v : Value) (dr : List Res) (hr : g.results = #[rv]) (h : RVal P E rs' rv q) (hl : Pr.le q (res v)) (hp : rs'.Perm (dr ++ (post v ++ extRes M1 w1 :: rs))) :
    Fin n E (Hp M0 w0 S rs') (bodyPost P g (BackL M0 w0 S rs M1 w1 (fun _ : Value => True) res post)) .ret := by
  rintro a w ⟨M, _, hd, he, hi⟩
  have hi : HpH M0 w0 S rs' M w := hi
  obtain ⟨u, hu, hp'⟩ := h M w a he (fun q hq => (hi.hold q hq).1)
  obtain ⟨h1, h2⟩ := outL (HpH.dropL (HpH.perm hp hi))
  exact ⟨hd, u, results1 hr hu, _, M, v, rfl, trivial, hl _ _ _ hp', h1, h2⟩
theorem TO.callV {Q : Exit → Act → World → Prop} {ops : Array Oper} {r : List Oper} {f : FuncId} {xs : Array Operand} {ts : Array TypeId} {ps : List Pr} {res : Value → Pr} {post : Value → List Res} {d : Nat} (hg : o.guard = none) (hd : o.dst = some d) (hn : d < n) (ho : o.op = .call { callee := .value (.func f), args := xs, argTypes := ts }) (hf : FunV P f ps res post)
    (hv : Vals E xs.toList ps) (k : ∀ v, TO P n ops r ((d, res v) :: E) (Hp M0 w0 S (post v ++ rs)) Q) : TO P n ops (o :: r) E (Hp M0 w0 S rs) Q :=
  TO.callL rs hg hd hn ho hf hv (List.Perm.refl _) fun v _ => k v
end
end Cp
namespace Cp
open Go Go.RowKit Go.Great
section
variable {P : Program} {n : Nat} {E : Env} {I : Asn} {Q : Exit → Act → World → Prop} {ops : Array Oper} {o : Oper} {r : List Oper} {g j : Nat} {b want : Bool}
theorem TO.cases (g : Nat) {b : Bool} {l : List Oper} (_hb : E.lookup g = some (bool b)) (ht : b = true → TO P n ops l E I Q) (hf : b = false → TO P n ops l E I Q) : TO P n ops l E I Q := by
  cases b
  · exact hf rfl
  · exact ht rfl
theorem TO.effG (hg : o.guard = some (j, want)) (hj : (ops[j]?).bind (·.dst) = some g) (hb : E.lookup g = some (bool b)) (hbw : b = want) (h : ∀ (K : Act → World → Prop) M w (a : Act), a.tmps.size = n → a.defers = [] → EnvOK M w E a → I.h M w →
    (∀ E' I' a' w', TO P n ops r E' I' Q → St n E' I' a' w' → K a' w') → o.wp P a w K Q) : TO P n ops (o :: r) E I Q := by
  intro k hl a w hs
  have h0 : ops[k]? = some o := by simpa using (hl 0).symm
  obtain ⟨M, hn, hd, he, hI⟩ := hs
  simp only [List.length_cons, List.range'_succ, wpOps, h0]
  have hy := yielded_ob (M := M) (w := w) (b := some b) hj (he g _ hb)
  rw [wanted_some hg hy, if_pos (by simp [hbw])]
  exact .inl (h _ M w a hn hd he hI fun E' I' a' w' hT hst => hT (k + 1) (fun j => by have := hl (j + 1); simpa [Nat.add_assoc, Nat.add_comm 1 j] using this) a' w' hst)
theorem TO.opG {d : Nat} {p : Pr} (hg : o.guard = some (j, want)) (hj : (ops[j]?).bind (·.dst) = some g) (hb : E.lookup g = some (bool b)) (hbw : b = want) (hd : o.dst = some d) (hn : d < n) (h : OpOK P I o E p) (k : TO P n ops r ((d, p) :: E) I Q) : TO P n ops (o :: r) E I Q :=
  TO.effG hg hj hb hbw fun K M w a h1 h2 h3 h4 hK => by
    refine gives_upon (h M w a (looks_env h3) h4) fun v w' hv hb' => hK _ _ _ _ k ⟨M, ?_, ?_, ?_, I.st _ _ _ hb' h4⟩
    · rw [put_size]; exact h1
    · rw [put_defers]; exact h2
    · have := h3.put (o := o) (p := p) hb' hv (fun d' hd' => by rw [hd] at hd'; cases hd'; rw [h1]; exact hn)
      rw [show upd o p E = (d, p) :: E by unfold upd; rw [hd]] at this; exact this
theorem TO.noG {d : Nat} (hg : o.guard = some (j, want)) (hj : (ops[j]?).bind (·.dst) = some g) (hb : E.lookup g = some (bool b)) (hbw : b ≠ want) (hd : o.dst = some d) (hn : d < n) (kk : TO P n ops r ((d, is undef) :: E) I Q) : TO P n ops (o :: r) E I Q := by
  intro k hl a w hs
  have h0 : ops[k]? = some o := by simpa using (hl 0).symm
  obtain ⟨M, h1, h2, he, hI⟩ := hs
  simp only [List.length_cons, List.range'_succ, wpOps, h0]
  have hy := yielded_ob (M := M) (w := w) (b := some b) hj (he g _ hb)
  rw [wanted_some hg hy, if_neg (by simp [hbw])]
  refine kk (k + 1) (fun j => by have := hl (j + 1); simpa [Nat.add_assoc, Nat.add_comm 1 j] using this) _ w ⟨M, by rw [put_size]; exact h1, by rw [put_defers]; exact h2, ?_, hI⟩
  have := he.put (o := o) (p := is undef) (v := undef) (Below.refl w.heap.size w) rfl (fun d' hd' => by rw [hd] at hd'; cases hd'; rw [h1]; exact hn)
  rw [show upd o (is undef) E = (d, is undef) :: E by unfold upd; rw [hd]] at this; exact this
variable {M0 : Av} {w0 : World} {S : Nat → Prop} {rs : List Res}
theorem TO.efcG {d : Nat} {p : Pr} (i : Nat) {R : Res} {R' : Res} (hg : o.guard = some (j, want)) (hj : (ops[j]?).bind (·.dst) = some g) (hb : E.lookup g = some (bool b)) (hbw : b = want) (hR : rs[i]? = some R) (hd : o.dst = some d) (hn : d < n) (h : OpEf P M0 w0 S n i (SR.c R) (SR.c R') { o with guard := none } E p)
    (k : TO P n ops r ((d, p) :: E) (Hp M0 w0 S (rs.set i R')) Q) : TO P n ops (o :: r) E (Hp M0 w0 S rs) Q :=
  TO.effG hg hj hb hbw fun K M w a hsz hdf he hI hK => by
    have hw : ({ o with guard := none } : Oper).wp P a w K Q := step_ef (h.2 M w a rs hsz (looks_env he) hI hR) fun v w' M' hv hx hI' => hK _ _ _ _ k ⟨M', by rw [put_size]; exact hsz, by rw [put_defers]; exact hdf, by
      intro s q hq
      simp only [List.lookup] at hq
      by_cases hs : s = d
      · subst hs; simp at hq; subst hq; show p.h M' w' ((a.put o.dst v).tmps.getD s undef); rw [hd, put_same (by rw [hsz]; exact hn)]; exact hv
      · rw [show (s == d) = false by simpa using hs] at hq; show q.h M' w' ((a.put o.dst v).tmps.getD s undef); rw [hd, put_other hs]; exact q.st _ _ _ _ _ hx (he s q hq), hI'⟩
    exact hw
end
end Cp
namespace Cp
open Go Go.RowKit Go.Great
section
variable {P : Program} {E : Env} {I : Asn} {o : Oper}
end
end Cp
namespace Cp
open Go Go.RowKit Go.Great
/-- What is known of a type, found by its number. -/
class T1 (P : Program) (t : TypeId) : Prop where
  h : oneB P t = true
class TA (P : Program) (t : TypeId) : Prop where
  h : aggB P t = true
class TZ (P : Program) (t : TypeId) (m : outParam Nat) : Prop where
  h : sizeB P t = some m
class TF (P : Program) (s f : Nat) (k : outParam Nat) : Prop where
  h : fieldOff P s f = some k
class TU (P : Program) (t : TypeId) (d : outParam TypeDesc) : Prop where
  h : P.underlying t = some d
class TB (P : Program) (t : TypeId) (place : outParam (Nat → Option (Nat × Nat))) (zs : outParam (List Value)) : Prop where
  h : ∀ ps, P.built t ps = Instr.fill place zs.toArray ps
  z : zs.all (·.oneCell') = true
class TV (P : Program) (t : TypeId) (zs : outParam (List Value)) : Prop where
  h : zeroB P t = some zs
  z : zs.all (·.oneCell') = true
class TM (P : Program) : Prop where
  h : P.follows .mixedOrders = true
section
variable {P : Program} {n : Nat} {I : Asn} {ops : Array Oper} {o : Oper} {r : List Oper} {E : Env} {K : Env → Prop} {d g j : Nat} {b want : Bool} {p : Pr} {x y : Operand} {Q : Exit → Act → World → Prop} {t u : TypeId}
theorem a_l1 [i : T1 P t] {ps : List Pr} (ho : o.op = .load t x) (hx : Val E x = some (ref (p :: ps))) : OpOK P I o E p := ok_load1 ho i.h (vl hx)
theorem a_lA [i : TA P t] {m : Nat} [z : TZ P t m] {ps qs : List Pr} (ho : o.op = .load t x) (hx : Val E x = some (ref ps)) (hq : ps.take m = qs) (hm : qs.length = m) : OpOK P I o E (agg qs) := ok_loadA ho i.h z.h (vl hx) hq hm
theorem a_fa {s : TypeId} {f k : Nat} [i : TF P s f k] {ps qs : List Pr} (ho : o.op = .fieldAddr s x f) (hx : Val E x = some (ref ps)) (hq : ps.drop k = qs) : OpOK P I o E (ref qs) := ok_fieldAddr ho i.h (vl hx) hq
theorem a_fp {s : TypeId} {f k : Nat} [i : TF P s f k] {b off : Nat} (ho : o.op = .fieldAddr s x f) (hx : Val E x = some (ptr b off)) : OpOK P I o E (ptr b (off + k)) := okp_fieldAddr ho i.h (vl hx)
theorem a_lm {e : TypeId} [i : TU P t (.slice e)] {sz : Nat} {β : Type} {f : β → List Pr} {l : List β} (ho : o.op = .call { callee := .builtin .len, args := #[x], argTypes := #[t] }) (hx : Val E x = some (slice sz (l.map f))) : OpOK P I o E (int ((l.length : Nat) : Int)) := ok_lenm ho i.h (vl hx)
theorem a_ls [i : TU P t .string] {a : List UInt8} (ho : o.op = .call { callee := .builtin .len, args := #[x], argTypes := #[t] }) (hx : Val E x = some (str a)) : OpOK P I o E (int ((a.length : Nat) : Int)) := ok_lens ho i.h (vl hx)
theorem a_eb [i : TU P t .bool] {b c : Bool} (ho : o.op = .binOp .eql t x y u) (hx : Val E x = some (bool b)) (hy : Val E y = some (bool c)) : OpOK P I o E (bool (b == c)) := ok_eqb ho i.h (vl hx) (vl hy)
theorem a_b1 {p : Pr} [One p] (ho : o.op = .box t x) (hx : Val E x = some p) : OpOK P I o E (ref [p]) := ok_box ho (VL.le (vl hx) (one_cellsP p))
theorem a_bA {ps : List Pr} (ho : o.op = .box t x) (hx : Val E x = some (agg ps)) : OpOK P I o E (ref ps) := ok_box ho (VL.le (vl hx) (agg_cellsP ps))
/-- What lies in the cells of a value that reads so. -/
class CP (p : Pr) (ps : outParam (List Pr)) : Prop where
  h : Pr.le p (cellsP ps)
instance cp_agg (ps : List Pr) : CP (agg ps) ps := ⟨agg_cellsP ps⟩
instance (priority := low) cp_one (p : Pr) [One p] : CP p [p] := ⟨one_cellsP p⟩
class CQ (p : Pr) (ps : outParam (List Pr)) : Prop where
  h : Pr.le p (cellsP ps)
instance cq_agg (ps : List Pr) : CQ (agg ps) ps := ⟨agg_cellsP ps⟩
instance cq_int (k : IntKind) (n : Int) : CQ (is (.int k n)) [is (.int k n)] := ⟨one_cellsP _⟩
instance cq_bool (b : Bool) : CQ (is (.bool b)) [is (.bool b)] := ⟨one_cellsP _⟩
instance cq_str (s : ByteArray) : CQ (is (.string s)) [is (.string s)] := ⟨one_cellsP _⟩
instance cq_ptr (a : Option Addr) : CQ (is (.pointer a)) [is (.pointer a)] := ⟨one_cellsP _⟩
instance cq_slice (sz : Nat) (rows : List (List Pr)) : CQ (slice sz rows) [slice sz rows] := ⟨one_cellsP _⟩
instance cq_ref (ps : List Pr) : CQ (ref ps) [ref ps] := ⟨one_cellsP _⟩
instance cq_fn (f : Fn) (ps : List Pr) : CQ (fn f ps) [fn f ps] := ⟨one_cellsP _⟩
theorem vf0 : ValF E [] [] := trivial
theorem vf1 {i : Nat} {q : Pr} {row : List Pr} [c : CQ q row] {xs : List (Nat × Operand)} {rows : List (Nat × List Pr)} (hx : Val E x = some q) (h : ValF E xs rows) : ValF E ((i, x) :: xs) ((i, row) :: rows) := ⟨⟨rfl, VL.le (vl hx) c.h⟩, h⟩
theorem vr0 {sz : Nat} : ValR E sz [] [] := trivial
theorem vr1 {sz : Nat} {q : Pr} {row : List Pr} [c : CQ q row] {xs : List Operand} {rows : List (List Pr)} (hx : Val E x = some q) (hl : row.length = sz) (h : ValR E sz xs rows) : ValR E sz (x :: xs) (row :: rows) := ⟨⟨hl, VL.le (vl hx) c.h⟩, h⟩
theorem a_bd {parts : Array (Nat × Operand)} {place : Nat → Option (Nat × Nat)} {zs : List Value} [i : TB P t place zs] {rows : List (Nat × List Pr)} {qs : List Pr} (ho : o.op = .build t parts) (hx : ValF E parts.toList rows) (hq : fillP place (zs.map is) rows = some qs) : OpOK P I o E (agg qs) := ok_build ho i.h i.z hx hq
theorem a_bs {e : TypeId} {sz m : Nat} {zs : List Value} {xs : List Operand} {parts : Array (Nat × Operand)} {rows : List (List Pr)} [i : TU P t (.slice e)] [z : TZ P e sz] [v : TV P e zs] (ho : o.op = .buildSlice t m parts) (hp : parts.toList.map Prod.snd = xs) (hm : (m == xs.length && (parts.toList.map Prod.fst == List.range m) && zs.length == sz && Nat.blt 0 sz && Nat.ble (m * sz) 16777216) = true) (hx : ValR E sz xs rows) : OpOK P I o E (full sz rows) := by
  simp only [Bool.and_eq_true, beq_iff_eq, Nat.blt_eq, Nat.ble_eq] at hm
  obtain ⟨⟨⟨⟨h1, h2⟩, h3⟩, h4⟩, h5⟩ := hm
  subst h1
  refine ok_buildSlice ho ?_ i.h z.h v.h h3 h4 hx h5
  refine List.ext_getElem (by rw [← hp]; simp) fun k h6 h7 => ?_
  have h8 : k < xs.length := by simpa using h7
  simp only [List.getElem_map, List.getElem_zipIdx, Nat.zero_add]
  have e1 : (parts.toList.map Prod.fst)[k]'(by simpa using h6) = k := by simp only [h2]; exact List.getElem_range _
  have e2 : (parts.toList.map Prod.snd)[k]'(by simpa using h6) = xs[k] := by simp only [hp]
  simp only [List.getElem_map] at e1 e2
  exact Prod.ext e1 e2
section
variable {M0 : Av} {w0 : World} {S : Nat → Prop} {b off : Nat} {T : TypeId} {new : Bool} {ps qs : List Pr} {m : Nat} {q : Pr}
theorem a_r1 [i : T1 P t] (ho : o.op = .load t x) (hx : Val E x = some (ptr b off)) (hp : ps[off]? = some p) : OpRd P M0 w0 S j (SR.c (cellsRes new b T ps)) o E p := rd_load1 ho i.h (vl hx) hp
theorem a_rA [i : TA P t] [z : TZ P t m] (ho : o.op = .load t x) (hx : Val E x = some (ptr b off)) (hq : (ps.drop off).take m = qs) (hm : qs.length = m) : OpRd P M0 w0 S j (SR.c (cellsRes new b T ps)) o E (agg qs) := rd_loadA ho i.h z.h (vl hx) hq hm
theorem a_st {ps' : List Pr} [z : TZ P t m] [c : CP q qs] (hg : o.guard = none) (ho : o.op = .store t x y) (hx : Val E x = some (ptr b off)) (hy : Val E y = some q) (hm : qs.length = m := by rfl) (hl : Nat.ble (off + m) ps.length = true := by rfl) (hps : ps.take off ++ qs ++ ps.drop (off + m) = ps' := by rfl) : OpEf P M0 w0 S n j (SR.c (cellsRes new b T ps)) (SR.c (cellsRes new b T ps')) o E any := ef_store hg ho (vl hx) (VL.le (vl hy) c.h) z.h hm (Nat.le_of_ble_eq_true hl) hps
variable {rs : List Res}
/-- A store that is the last one: no one turns it. -/
theorem sf (i s : Nat) [z : TZ P t m] [c : CP q qs] (hg : o.guard = none ∧ o.dst = none ∧ o.op = .store t x y) (hx : Val E x = some (ptr b 0)) (hy : Val E y = some q) (hi : rs[i]? = some (cellsRes true b T ps)) (hs : E.lookup s = some (ptr b 0))
    (k : TO P n ops r ((s, ref qs) :: E) (Hp M0 w0 S ((rs.set i (cellsRes true b T qs)).eraseIdx i)) Q) (hm : qs.length = m := by rfl) (hl : ps.length = m := by rfl) : TO P n ops (o :: r) E (Hp M0 w0 S rs) Q :=
  TO.store_all i hg.1 hg.2.1 hg.2.2 (vl hx) (VL.le (vl hy) c.h) hi z.h hm hl (TO.freeze (ps := qs) i s (by
    have hlt : i < rs.length := by rcases Nat.lt_or_ge i rs.length with h | h; exact h; rw [List.getElem?_eq_none h] at hi; cases hi
    rw [List.getElem?_set_self hlt]) hs k)
theorem sa (i : Nat) [z : TZ P t m] [c : CP q qs] (hg : o.guard = none ∧ o.dst = none ∧ o.op = .store t x y) (hx : Val E x = some (ptr b 0)) (hy : Val E y = some q) (hi : rs[i]? = some (cellsRes new b T ps))
    (k : TO P n ops r E (Hp M0 w0 S (rs.set i (cellsRes new b T qs))) Q) (hm : qs.length = m := by rfl) (hl : ps.length = m := by rfl) : TO P n ops (o :: r) E (Hp M0 w0 S rs) Q := TO.store_all i hg.1 hg.2.1 hg.2.2 (vl hx) (VL.le (vl hy) c.h) hi z.h hm hl k
end
/-- Which kind of operation it is. -/
def opk (o : Oper) : Nat := match o.op with
  | .move .. => 1
  | .assign .. => 1
  | .fieldAddr .. => 2
  | .load .. => 3
  | .binOp .add .. => 7
  | .binOp .sub .. => 8
  | .binOp .. => 4
  | .pick .. => 5
  | .nilCheck .. => 6
  | .call { callee := .builtin .len, .. } => 9
  | .unOp .. => 10
  | .box .. => 11
  | .extract .. => 12
  | .makeFunc .. => 13
  | .build .. => 14
  | .buildSlice .. => 15
  | .store .. => 16
  | _ => 0
/-- Plain: no guard. -/
def isPl (o : Oper) : Bool := o.guard.isNone
def grp (o : Oper) : Nat := if opk o = 0 then 0 else if opk o < 5 then 1 else if opk o < 9 then 2 else if opk o < 16 then 3 else 4
theorem a_ad {m z : Int} (ho : o.op = .binOp .add t x y u) (hx : Val E x = some (int m)) (hy : Val E y = some (int z)) (hr : -9223372036854775808 ≤ m + z ∧ m + z ≤ 9223372036854775807) : OpOK P I o E (int (m + z)) := ok_add ho (vl hx) (vl hy) hr
theorem a_su {m z : Int} (ho : o.op = .binOp .sub t x y u) (hx : Val E x = some (int m)) (hy : Val E y = some (int z)) (hr : -9223372036854775808 ≤ m - z ∧ m - z ≤ 9223372036854775807) : OpOK P I o E (int (m - z)) := ok_sub ho (vl hx) (vl hy) hr
theorem oF (h : OpOK P I o E p := by first | exact a_fa rfl rfl rfl | exact a_fp rfl rfl) : OpOK P I o E p := h
theorem oL (h : OpOK P I o E p := by first | exact a_l1 rfl rfl | exact a_lA rfl rfl rfl rfl | exact ok_rd 0 rfl (a_r1 rfl rfl rfl) | exact ok_rd 0 rfl (a_rA rfl rfl rfl rfl) | exact ok_rd 1 rfl (a_r1 rfl rfl rfl) | exact ok_rd 1 rfl (a_rA rfl rfl rfl rfl) | exact ok_rd 2 rfl (a_r1 rfl rfl rfl) | exact ok_rd 2 rfl (a_rA rfl rfl rfl rfl) | exact ok_rd 3 rfl (a_r1 rfl rfl rfl) | exact ok_rd 3 rfl (a_rA rfl rfl rfl rfl) | exact ok_rd 4 rfl (a_r1 rfl rfl rfl) | exact ok_rd 4 rfl (a_rA rfl rfl rfl rfl)) : OpOK P I o E p := h
theorem oB (h : OpOK P I o E p := by first | exact ki rfl rfl rfl rfl | exact ok_eqs rfl (vl rfl) (vl rfl) | exact ok_nes rfl (vl rfl) (vl rfl) | exact a_eb rfl rfl rfl) : OpOK P I o E p := h
theorem oP (h : OpOK P I o E p := by first | exact kpt rfl rfl (by first | rfl | assumption) rfl | exact kpf rfl rfl (by first | rfl | assumption) rfl | exact ok_pickOr rfl (vl rfl) (vl rfl) | exact ok_pickAnd rfl (vl rfl) (vl rfl)) : OpOK P I o E p := h
theorem oN (h : OpOK P I o E p := by first | exact okp_nilCheck rfl (vl rfl) | exact ok_nilCheck_ref rfl (vl rfl) | exact ok_nilCheck_fn rfl (vl rfl)) : OpOK P I o E p := h
theorem oA (h : OpOK P I o E p := by first | exact a_ad rfl rfl rfl (by omega) | exact ki rfl rfl rfl rfl) : OpOK P I o E p := h
theorem oS (h : OpOK P I o E p := by first | exact a_su rfl rfl rfl (by omega) | exact ki rfl rfl rfl rfl) : OpOK P I o E p := h
theorem oC (h : OpOK P I o E p := by first | exact a_lm rfl rfl | exact a_ls rfl rfl) : OpOK P I o E p := h
theorem oU (h : OpOK P I o E p := by first | exact ok_not rfl (vl rfl)) : OpOK P I o E p := h
theorem oO (h : OpOK P I o E p := by first | exact a_bA rfl rfl | exact a_b1 rfl rfl) : OpOK P I o E p := h
theorem oE (h : OpOK P I o E p := by first | exact ok_extract rfl (vl rfl) rfl) : OpOK P I o E p := h
theorem oM (h : OpOK P I o E p := by first | exact ok_makeFunc rfl rfl) : OpOK P I o E p := h
theorem oD (h : OpOK P I o E p := by first | exact a_bd rfl (by repeat any_goals first | exact vf0 | refine' vf1 rfl ?_) (by rfl)) : OpOK P I o E p := h
theorem oI (h : OpOK P I o E p := by first | exact a_bs rfl rfl (by rfl) (by repeat any_goals first | exact vr0 | refine' vr1 rfl (by rfl) ?_)) : OpOK P I o E p := h
theorem kc0 {f : FuncId} {ts : Array TypeId} {res : Pr} (hf : Fun P f [] res) (ho : o.op = .call { callee := .value (.func f), args := #[], argTypes := ts }) : OpOK P I o E res := ok_call ho hf trivial
theorem kc1 {f : FuncId} {ts : Array TypeId} {x0 : Operand} {p0 : Pr} {res : Pr} (hf : Fun P f [p0] res) (ho : o.op = .call { callee := .value (.func f), args := #[x0], argTypes := ts }) (h0 : Val E x0 = some p0) : OpOK P I o E res := ok_call ho hf ⟨ke h0, trivial⟩
theorem kc2 {f : FuncId} {ts : Array TypeId} {x0 : Operand} {p0 : Pr} {x1 : Operand} {p1 : Pr} {res : Pr} (hf : Fun P f [p0, p1] res) (ho : o.op = .call { callee := .value (.func f), args := #[x0, x1], argTypes := ts }) (h0 : Val E x0 = some p0) (h1 : Val E x1 = some p1) : OpOK P I o E res := ok_call ho hf ⟨ke h0, ke h1, trivial⟩
theorem kc3 {f : FuncId} {ts : Array TypeId} {x0 : Operand} {p0 : Pr} {x1 : Operand} {p1 : Pr} {x2 : Operand} {p2 : Pr} {res : Pr} (hf : Fun P f [p0, p1, p2] res) (ho : o.op = .call { callee := .value (.func f), args := #[x0, x1, x2], argTypes := ts }) (h0 : Val E x0 = some p0) (h1 : Val E x1 = some p1) (h2 : Val E x2 = some p2) : OpOK P I o E res := ok_call ho hf ⟨ke h0, ke h1, ke h2, trivial⟩
theorem kc5 {f : FuncId} {ts : Array TypeId} {x0 : Operand} {p0 : Pr} {x1 : Operand} {p1 : Pr} {x2 : Operand} {p2 : Pr} {x3 : Operand} {p3 : Pr} {x4 : Operand} {p4 : Pr} {res : Pr} (hf : Fun P f [p0, p1, p2, p3, p4] res) (ho : o.op = .call { callee := .value (.func f), args := #[x0, x1, x2, x3, x4], argTypes := ts }) (h0 : Val E x0 = some p0) (h1 : Val E x1 = some p1) (h2 : Val E x2 = some p2) (h3 : Val E x3 = some p3) (h4 : Val E x4 = some p4) : OpOK P I o E res := ok_call ho hf ⟨ke h0, ke h1, ke h2, ke h3, ke h4, trivial⟩
theorem cP (_ : isPl o = true) (h : Ch P n I ops (o :: r) E K) : Ch P n I ops (o :: r) E K := h
theorem cG (_ : isPl o = false) (h : Ch P n I ops (o :: r) E K) : Ch P n I ops (o :: r) E K := h
theorem cK (k : Nat) (_ : opk o = k) (h : Ch P n I ops (o :: r) E K) : Ch P n I ops (o :: r) E K := h
theorem cS (k : Nat) (_ : grp o = k) (h : Ch P n I ops (o :: r) E K) : Ch P n I ops (o :: r) E K := h
theorem tK (k : Nat) (_ : opk o = k) (h : TO P n ops (o :: r) E I Q) : TO P n ops (o :: r) E I Q := h
theorem tG (k : Nat) (_ : grp o = k) (h : TO P n ops (o :: r) E I Q) : TO P n ops (o :: r) E I Q := h
theorem Tr.rm [i : TM P] {id : Nat} {l : List Oper} (hB : drawOk l = true) (h : Ch P n I l.toArray l E (fun E' => Fin n E' I Q .normal)) : Tr P n E I (.region id l.toArray true) Q := Tr.reg1 i.h hB h
theorem Tr.ct {c : Operand} {y z : Code} (hc : Val E c = some (bool true)) (k : Tr P n E I y Q) : Tr P n E I (.cond c y z) Q := Tr.cond hc (fun _ => k) (fun h => nomatch h)
theorem Tr.cf {c : Operand} {y z : Code} (hc : Val E c = some (bool false)) (k : Tr P n E I z Q) : Tr P n E I (.cond c y z) Q := Tr.cond hc (fun h => nomatch h) (fun _ => k)
/-- What comes later. -/
structure Lt_ (G : Prop) : Prop where
  k : G
theorem Cx.mono {M0 : Av} {w0 : World} {S : Nat → Prop} : ∀ {l : List Oper} {E : Env} {rs : List SR} {K K' : List X → Env → List SR → Prop}, (∀ L E rs, K L E rs → K' L E rs) → Cx P M0 w0 S n ops l E rs K → Cx P M0 w0 S n ops l E rs K'
  | [], _, _, _, _, h, k => h _ _ _ k
  | _ :: _, _, _, _, _, h, ⟨p, k, h1, h2, h3⟩ => ⟨p, k, h1, h2, Cx.mono (fun _ _ _ => h _ _ _) h3⟩
theorem Cx.keys {M0 : Av} {w0 : World} {S : Nat → Prop} : ∀ {l : List Oper} {E : Env} {rs : List SR} {K : List X → Env → List SR → Prop}, Cx P M0 w0 S n ops l E rs K → ∃ ks : List KN, Cx P M0 w0 S n ops l E rs (fun L E' rs' => L.map (·.k.nums) = ks ∧ K L E' rs')
  | [], _, _, _, k => ⟨[], rfl, k⟩
  | _ :: _, _, _, _, ⟨p, k, h1, h2, h3⟩ => by
    obtain ⟨ks, h4⟩ := Cx.keys h3
    exact ⟨k.nums :: ks, p, k, h1, h2, Cx.mono (fun L E rs h => ⟨by rw [List.map_cons, h.1], h.2⟩) h4⟩
theorem Tr.rx [i : TM P] {M0 : Av} {w0 : World} {S : Nat → Prop} {id : Nat} {l : List Oper} {rs0 : List Res}
    (h : Cx P M0 w0 S n l.toArray l E (rs0.map SR.c) (fun L E' rs' => drawOkX l (L.map (·.k.nums)) = true ∧ FinX n M0 w0 S E' rs' Q)) : Tr P n E (Hp M0 w0 S rs0) (.region id l.toArray true) Q := by
  obtain ⟨ks, hk⟩ := Cx.keys h
  obtain ⟨L, h1, h2, h3⟩ := cx_list l 0 E _ hk
  exact Tr.regX i.h ks (by rw [← h3.1]; exact h3.2.1) (hk.mono fun _ _ _ h => ⟨h.1, h.2.2⟩)
theorem al1 {rs : List Res} {r0 : Res} : AllC (SR.c r0 :: rs.map SR.c) (r0 :: rs) := .cons (AllC.map _)
theorem al2 {rs : List Res} {r0 : Res} {r1 : Res} : AllC (SR.c r0 :: SR.c r1 :: rs.map SR.c) (r0 :: r1 :: rs) := .cons (.cons (AllC.map _))
theorem al3 {rs : List Res} {r0 : Res} {r1 : Res} {r2 : Res} : AllC (SR.c r0 :: SR.c r1 :: SR.c r2 :: rs.map SR.c) (r0 :: r1 :: r2 :: rs) := .cons (.cons (.cons (AllC.map _)))
theorem al4 {rs : List Res} {r0 : Res} {r1 : Res} {r2 : Res} {r3 : Res} : AllC (SR.c r0 :: SR.c r1 :: SR.c r2 :: SR.c r3 :: rs.map SR.c) (r0 :: r1 :: r2 :: r3 :: rs) := .cons (.cons (.cons (.cons (AllC.map _))))
theorem al5 {rs : List Res} {r0 : Res} {r1 : Res} {r2 : Res} {r3 : Res} {r4 : Res} : AllC (SR.c r0 :: SR.c r1 :: SR.c r2 :: SR.c r3 :: SR.c r4 :: rs.map SR.c) (r0 :: r1 :: r2 :: r3 :: r4 :: rs) := .cons (.cons (.cons (.cons (.cons (AllC.map _)))))
theorem fo {f : FuncId} {g : Func} {c : Code} {ps : List Pr} {res : Pr} (hf : P.funcs[f]? = some g) (hb : g.body = some c) (hname : ((g.name == "runtime.NumGoroutine") = false ∧ Nat.ble ps.length g.ntmps = true))
    (h : ∀ M0 w0, Tr P g.ntmps (penv 0 ps) (Bse M0 w0) c (bodyPost P g (Back M0 w0 res))) : Fun P f ps res := Fun.of hf hb hname.1 (Nat.le_of_ble_eq_true hname.2) h
section
variable {M0 : Av} {w0 : World} {S : Nat → Prop} {rs : List SR} {KX : List X → Env → List SR → Prop}
theorem xId {l : List Oper} (h : Cx P M0 w0 S n ops l E rs KX) : Cx P M0 w0 S n ops l E rs KX := h
theorem xK (k : Nat) (_ : opk o = k) (h : Cx P M0 w0 S n ops (o :: r) E rs KX) : Cx P M0 w0 S n ops (o :: r) E rs KX := h
theorem xG (k : Nat) (_ : grp o = k) (h : Cx P M0 w0 S n ops (o :: r) E rs KX) : Cx P M0 w0 S n ops (o :: r) E rs KX := h
end
theorem cId {l : List Oper} (h : Ch P n I ops l E K) : Ch P n I ops l E K := h
theorem rId {c : Code} (h : Tr P n E I c Q) : Tr P n E I c Q := h
theorem fId {e : Exit} (h : Fin n E I Q e) : Fin n E I Q e := h
theorem tId {l : List Oper} (h : TO P n ops l E I Q) : TO P n ops l E I Q := h
/-- On to the next statement. -/
theorem ac {G H : Prop} (k : G) (h : Lt_ G → H := by
  intro k
  repeat first
    | ((with_reducible refine cId ?_); first
      | with_reducible refine Ch.nil ?_
      | (refine cP rfl ?_; first
        | (refine cS 1 rfl ?_; first
            | (refine cK 1 rfl ?_; refine cm rfl ?_)
            | (refine cK 2 rfl ?_; refine co rfl oF ?_)
            | (refine cK 3 rfl ?_; refine co rfl oL ?_)
            | (refine cK 4 rfl ?_; refine co rfl oB ?_))
        | (refine cS 2 rfl ?_; first
            | (refine cK 5 rfl ?_; refine co rfl oP ?_)
            | (refine cK 6 rfl ?_; refine co rfl oN ?_)
            | (refine cK 7 rfl ?_; refine co rfl oA ?_)
            | (refine cK 8 rfl ?_; refine co rfl oS ?_))
        | (refine cS 3 rfl ?_; first
            | (refine cK 9 rfl ?_; refine co rfl oC ?_)
            | (refine cK 10 rfl ?_; refine co rfl oU ?_)
            | (refine cK 11 rfl ?_; refine co rfl oO ?_)
            | (refine cK 12 rfl ?_; refine co rfl oE ?_)
            | (refine cK 13 rfl ?_; refine co rfl oM ?_)
            | (refine cK 14 rfl ?_; refine co rfl oD ?_)
            | (refine cK 15 rfl ?_; refine co rfl oI ?_)))
      | (refine cG rfl ?_; first
        | refine cu rfl ?_
        | refine cnt (by assumption) rfl ?_
        | refine cnf (by assumption) rfl ?_
        | (refine cS 1 rfl ?_; first
            | (refine cK 1 rfl ?_; refine cym (by first | assumption | rfl) rfl ?_)
            | (refine cK 2 rfl ?_; refine cy (by first | assumption | rfl) rfl oF ?_)
            | (refine cK 3 rfl ?_; refine cy (by first | assumption | rfl) rfl oL ?_)
            | (refine cK 4 rfl ?_; refine cy (by first | assumption | rfl) rfl oB ?_))
        | (refine cS 2 rfl ?_; first
            | (refine cK 5 rfl ?_; refine cy (by first | assumption | rfl) rfl oP ?_)
            | (refine cK 6 rfl ?_; refine cy (by first | assumption | rfl) rfl oN ?_)
            | (refine cK 7 rfl ?_; refine cy (by first | assumption | rfl) rfl oA ?_)
            | (refine cK 8 rfl ?_; refine cy (by first | assumption | rfl) rfl oS ?_))
        | (refine cS 3 rfl ?_; first
            | (refine cK 9 rfl ?_; refine cy (by first | assumption | rfl) rfl oC ?_)
            | (refine cK 10 rfl ?_; refine cy (by first | assumption | rfl) rfl oU ?_)
            | (refine cK 11 rfl ?_; refine cy (by first | assumption | rfl) rfl oO ?_)
            | (refine cK 12 rfl ?_; refine cy (by first | assumption | rfl) rfl oE ?_)
            | (refine cK 13 rfl ?_; refine cy (by first | assumption | rfl) rfl oM ?_)
            | (refine cK 14 rfl ?_; refine cy (by first | assumption | rfl) rfl oD ?_)
            | (refine cK 15 rfl ?_; refine cy (by first | assumption | rfl) rfl oI ?_))
        | refine cnd rfl rfl ?_))
    | ((with_reducible refine rId ?_); first
      | with_reducible refine Tr.seq ?_
      | with_reducible refine Tr.reg0 ?_
      | refine Tr.rm (by kernel_rfl) ?_
      | with_reducible refine Tr.skip ?_
      | with_reducible refine Tr.block ?_
      | with_reducible refine Tr.ret ?_
      | with_reducible refine Tr.exit ?_
      | refine Tr.ct rfl ?_
      | refine Tr.cf rfl ?_)
    | ((with_reducible refine fId ?_); first
      | with_reducible refine Fin.then_ret ?_
      | with_reducible refine Fin.block_ret ?_
      | with_reducible refine Fin.then_exit ?_
      | with_reducible refine Fin.block_here ?_
      | refine Fin.block_on rfl ?_
      | with_reducible refine Fin.block ?_
      | refine Fin.ret1 rfl (OutW.bse _ _) rfl ?_)
  first | with_reducible refine Fin.go ?_ | with_reducible refine cId ?_ | with_reducible refine tId ?_ | with_reducible refine rId ?_ | refine Fin.go ?_ | skip
  exact k.k) : H := h ⟨k⟩
/-- The same, with what is turned. -/
theorem ao {G H : Prop} (k : G) (h : Lt_ G → H := by
  intro k
  repeat first
    | ((with_reducible refine tId ?_); first
      | with_reducible refine TO.nil ?_
      | (refine tG 1 rfl ?_; first
          | (refine tK 1 rfl ?_; refine tm rfl ?_)
          | (refine tK 2 rfl ?_; refine tp rfl oF ?_)
          | (refine tK 3 rfl ?_; refine tp rfl oL ?_)
          | (refine tK 4 rfl ?_; refine tp rfl oB ?_))
      | (refine tG 2 rfl ?_; first
          | (refine tK 5 rfl ?_; refine tp rfl oP ?_)
          | (refine tK 6 rfl ?_; refine tp rfl oN ?_)
          | (refine tK 7 rfl ?_; refine tp rfl oA ?_)
          | (refine tK 8 rfl ?_; refine tp rfl oS ?_))
      | (refine tG 3 rfl ?_; first
          | (refine tK 9 rfl ?_; refine tp rfl oC ?_)
          | (refine tK 10 rfl ?_; refine tp rfl oU ?_)
          | (refine tK 12 rfl ?_; refine tp rfl oE ?_)
          | (refine tK 13 rfl ?_; refine tp rfl oM ?_)
          | (refine tK 14 rfl ?_; refine tp rfl oD ?_)
          | (refine tK 15 rfl ?_; refine tp rfl oI ?_)))
    | ((with_reducible refine rId ?_); first
      | with_reducible refine Tr.seq ?_
      | with_reducible refine Tr.regT ?_
      | with_reducible refine Tr.skip ?_
      | with_reducible refine Tr.block ?_
      | with_reducible refine Tr.ret ?_
      | with_reducible refine Tr.exit ?_)
    | ((with_reducible refine fId ?_); first
      | with_reducible refine Fin.then_ret ?_
      | with_reducible refine Fin.block_ret ?_
      | with_reducible refine Fin.then_exit ?_
      | with_reducible refine Fin.block_here ?_
      | refine Fin.block_on rfl ?_
      | with_reducible refine Fin.block ?_)
  first | with_reducible refine Fin.go ?_ | with_reducible refine cId ?_ | with_reducible refine tId ?_ | with_reducible refine rId ?_ | refine Fin.go ?_ | skip
  exact k.k) : H := h ⟨k⟩
/-- And stores. -/
theorem ap {G H : Prop} (k : G) (h : Lt_ G → H := by
  intro k
  repeat first
    | ((with_reducible refine tId ?_); first
      | with_reducible refine TO.nil ?_
      | (refine tG 1 rfl ?_; first
          | (refine tK 1 rfl ?_; refine tm rfl ?_)
          | (refine tK 2 rfl ?_; refine tp rfl oF ?_)
          | (refine tK 3 rfl ?_; refine tp rfl oL ?_)
          | (refine tK 4 rfl ?_; refine tp rfl oB ?_))
      | (refine tG 2 rfl ?_; first
          | (refine tK 5 rfl ?_; refine tp rfl oP ?_)
          | (refine tK 6 rfl ?_; refine tp rfl oN ?_)
          | (refine tK 7 rfl ?_; refine tp rfl oA ?_)
          | (refine tK 8 rfl ?_; refine tp rfl oS ?_))
      | (refine tG 3 rfl ?_; first
          | (refine tK 9 rfl ?_; refine tp rfl oC ?_)
          | (refine tK 10 rfl ?_; refine tp rfl oU ?_)
          | (refine tK 12 rfl ?_; refine tp rfl oE ?_)
          | (refine tK 13 rfl ?_; refine tp rfl oM ?_)
          | (refine tK 14 rfl ?_; refine tp rfl oD ?_)
          | (refine tK 15 rfl ?_; refine tp rfl oI ?_))
      | (refine tK 16 rfl ?_; first
        | refine sa 0 ⟨rfl, rfl, rfl⟩ rfl rfl rfl ?_
        | refine TO.ef0 0 rfl rfl (a_st rfl rfl rfl rfl) ?_
        | refine sa 1 ⟨rfl, rfl, rfl⟩ rfl rfl rfl ?_
        | refine TO.ef0 1 rfl rfl (a_st rfl rfl rfl rfl) ?_
        | refine sa 2 ⟨rfl, rfl, rfl⟩ rfl rfl rfl ?_
        | refine TO.ef0 2 rfl rfl (a_st rfl rfl rfl rfl) ?_
        | refine sa 3 ⟨rfl, rfl, rfl⟩ rfl rfl rfl ?_
        | refine TO.ef0 3 rfl rfl (a_st rfl rfl rfl rfl) ?_))
    | ((with_reducible refine rId ?_); first
      | with_reducible refine Tr.seq ?_
      | with_reducible refine Tr.regT ?_
      | with_reducible refine Tr.skip ?_
      | with_reducible refine Tr.block ?_
      | with_reducible refine Tr.ret ?_
      | with_reducible refine Tr.exit ?_)
    | ((with_reducible refine fId ?_); first
      | with_reducible refine Fin.then_ret ?_
      | with_reducible refine Fin.block_ret ?_
      | with_reducible refine Fin.then_exit ?_
      | with_reducible refine Fin.block_here ?_
      | refine Fin.block_on rfl ?_
      | with_reducible refine Fin.block ?_)
  first | with_reducible refine Fin.go ?_ | with_reducible refine cId ?_ | with_reducible refine tId ?_ | with_reducible refine rId ?_ | refine Fin.go ?_ | skip
  exact k.k) : H := h ⟨k⟩
/-- The same in a drawn region that writes. -/
theorem ax {G H : Prop} (k : G) (h : Lt_ G → H := by
  intro k
  repeat ((with_reducible refine xId ?_); first
      | (refine xG 1 rfl ?_; first
          | (refine xK 1 rfl ?_; refine xm rfl ?_)
          | (refine xK 2 rfl ?_; refine xo rfl (fun _ => oF) ?_)
          | (refine xK 3 rfl ?_; refine xo rfl (fun _ => oL) ?_)
          | (refine xK 4 rfl ?_; refine xo rfl (fun _ => oB) ?_))
      | (refine xG 2 rfl ?_; first
          | (refine xK 5 rfl ?_; refine xo rfl (fun _ => oP) ?_)
          | (refine xK 6 rfl ?_; refine xo rfl (fun _ => oN) ?_)
          | (refine xK 7 rfl ?_; refine xo rfl (fun _ => oA) ?_)
          | (refine xK 8 rfl ?_; refine xo rfl (fun _ => oS) ?_))
      | (refine xG 3 rfl ?_; first
          | (refine xK 9 rfl ?_; refine xo rfl (fun _ => oC) ?_)
          | (refine xK 10 rfl ?_; refine xo rfl (fun _ => oU) ?_)
          | (refine xK 11 rfl ?_; refine xo rfl (fun _ => oO) ?_)
          | (refine xK 12 rfl ?_; refine xo rfl (fun _ => oE) ?_)
          | (refine xK 13 rfl ?_; refine xo rfl (fun _ => oM) ?_)
          | (refine xK 14 rfl ?_; refine xo rfl (fun _ => oD) ?_))
      | (refine xK 3 rfl ?_; first
        | refine xrd 0 rfl rfl (a_r1 rfl rfl rfl) ?_
        | refine xrd 0 rfl rfl (a_rA rfl rfl rfl rfl) ?_
        | refine xrd 1 rfl rfl (a_r1 rfl rfl rfl) ?_
        | refine xrd 1 rfl rfl (a_rA rfl rfl rfl rfl) ?_
        | refine xrd 2 rfl rfl (a_r1 rfl rfl rfl) ?_
        | refine xrd 2 rfl rfl (a_rA rfl rfl rfl rfl) ?_
        | refine xrd 3 rfl rfl (a_r1 rfl rfl rfl) ?_
        | refine xrd 3 rfl rfl (a_rA rfl rfl rfl rfl) ?_
        | refine xrd 4 rfl rfl (a_r1 rfl rfl rfl) ?_
        | refine xrd 4 rfl rfl (a_rA rfl rfl rfl rfl) ?_))
  exact k.k) : H := h ⟨k⟩
/-- And stores. -/
theorem ay {G H : Prop} (k : G) (h : Lt_ G → H := by
  intro k
  repeat ((with_reducible refine xId ?_); first
      | (refine xG 1 rfl ?_; first
          | (refine xK 1 rfl ?_; refine xm rfl ?_)
          | (refine xK 2 rfl ?_; refine xo rfl (fun _ => oF) ?_)
          | (refine xK 3 rfl ?_; refine xo rfl (fun _ => oL) ?_)
          | (refine xK 4 rfl ?_; refine xo rfl (fun _ => oB) ?_))
      | (refine xG 2 rfl ?_; first
          | (refine xK 5 rfl ?_; refine xo rfl (fun _ => oP) ?_)
          | (refine xK 6 rfl ?_; refine xo rfl (fun _ => oN) ?_)
          | (refine xK 7 rfl ?_; refine xo rfl (fun _ => oA) ?_)
          | (refine xK 8 rfl ?_; refine xo rfl (fun _ => oS) ?_))
      | (refine xG 3 rfl ?_; first
          | (refine xK 9 rfl ?_; refine xo rfl (fun _ => oC) ?_)
          | (refine xK 10 rfl ?_; refine xo rfl (fun _ => oU) ?_)
          | (refine xK 11 rfl ?_; refine xo rfl (fun _ => oO) ?_)
          | (refine xK 12 rfl ?_; refine xo rfl (fun _ => oE) ?_)
          | (refine xK 13 rfl ?_; refine xo rfl (fun _ => oM) ?_)
          | (refine xK 14 rfl ?_; refine xo rfl (fun _ => oD) ?_))
      | (refine xK 3 rfl ?_; first
        | refine xrd 0 rfl rfl (a_r1 rfl rfl rfl) ?_
        | refine xrd 0 rfl rfl (a_rA rfl rfl rfl rfl) ?_
        | refine xrd 1 rfl rfl (a_r1 rfl rfl rfl) ?_
        | refine xrd 1 rfl rfl (a_rA rfl rfl rfl rfl) ?_
        | refine xrd 2 rfl rfl (a_r1 rfl rfl rfl) ?_
        | refine xrd 2 rfl rfl (a_rA rfl rfl rfl rfl) ?_
        | refine xrd 3 rfl rfl (a_r1 rfl rfl rfl) ?_
        | refine xrd 3 rfl rfl (a_rA rfl rfl rfl rfl) ?_
        | refine xrd 4 rfl rfl (a_r1 rfl rfl rfl) ?_
        | refine xrd 4 rfl rfl (a_rA rfl rfl rfl rfl) ?_)
      | (refine xK 16 rfl ?_; first
        | refine Cx.ef0 0 rfl rfl (a_st rfl rfl rfl rfl) ?_
        | refine Cx.ef0 1 rfl rfl (a_st rfl rfl rfl rfl) ?_
        | refine Cx.ef0 2 rfl rfl (a_st rfl rfl rfl rfl) ?_
        | refine Cx.ef0 3 rfl rfl (a_st rfl rfl rfl rfl) ?_))
  exact k.k) : H := h ⟨k⟩
end
end Cp
namespace Go.Proofs.YtppeeogffbpcbaaGreat
open Go Cp
instance i_mixed : TM Tryz.prog := ⟨mixed⟩
instance i_z3 : TV Tryz.prog 3 [.int .i64 0] := ⟨z3, zo3⟩
instance i_one3 : T1 Tryz.prog 3 := ⟨one3⟩
instance i_sz3 : TZ Tryz.prog 3 1 := ⟨sz3⟩
instance i_one4 : T1 Tryz.prog 4 := ⟨one4⟩
instance i_sz4 : TZ Tryz.prog 4 1 := ⟨sz4⟩
instance i_underlying4 : TU Tryz.prog 4 .bool := ⟨Tryz.underlying4⟩
instance i_z5 : TV Tryz.prog 5 [.int .u8 0] := ⟨z5, zo5⟩
instance i_one5 : T1 Tryz.prog 5 := ⟨one5⟩
instance i_sz5 : TZ Tryz.prog 5 1 := ⟨sz5⟩
instance i_z9 : TV Tryz.prog 9 [.string (ByteArray.mk #[])] := ⟨z9, zo9⟩
instance i_one9 : T1 Tryz.prog 9 := ⟨one9⟩
instance i_sz9 : TZ Tryz.prog 9 1 := ⟨sz9⟩
instance i_underlying9 : TU Tryz.prog 9 .string := ⟨Tryz.underlying9⟩
instance i_one22 : T1 Tryz.prog 22 := ⟨one22⟩
instance i_sz22 : TZ Tryz.prog 22 1 := ⟨sz22⟩
instance i_underlying22 : TU Tryz.prog 22 (.slice 3) := ⟨Tryz.underlying22⟩
instance i_bl24 : TB Tryz.prog 24 (fun i => (#[(0, 1), (1, 1)] : Array (Nat × Nat))[i]?) (List.replicate 2 (.int .i64 0)) := ⟨bl24, zo24⟩
instance i_z24 : TV Tryz.prog 24 (List.replicate 2 (.int .i64 0)) := ⟨z24, zo24⟩
instance i_agg24 : TA Tryz.prog 24 := ⟨agg24⟩
instance i_sz24 : TZ Tryz.prog 24 2 := ⟨sz24⟩
instance i_fo24_0 : TF Tryz.prog 24 0 0 := ⟨fo24_0⟩
instance i_fo24_1 : TF Tryz.prog 24 1 1 := ⟨fo24_1⟩
instance i_one25 : T1 Tryz.prog 25 := ⟨one25⟩
instance i_sz25 : TZ Tryz.prog 25 1 := ⟨sz25⟩
instance i_underlying25 : TU Tryz.prog 25 (.slice 131) := ⟨Tryz.underlying25⟩
instance i_bl27 : TB Tryz.prog 27 (fun i => (#[(0, 2), (2, 1), (3, 1)] : Array (Nat × Nat))[i]?) [.int .i64 0, .int .i64 0, .int .i64 0, .slice none 0 0] := ⟨bl27, zo27⟩
instance i_z27 : TV Tryz.prog 27 [.int .i64 0, .int .i64 0, .int .i64 0, .slice none 0 0] := ⟨z27, zo27⟩
instance i_agg27 : TA Tryz.prog 27 := ⟨agg27⟩
instance i_sz27 : TZ Tryz.prog 27 4 := ⟨sz27⟩
instance i_fo27_0 : TF Tryz.prog 27 0 0 := ⟨fo27_0⟩
instance i_fo27_1 : TF Tryz.prog 27 1 2 := ⟨fo27_1⟩
instance i_fo27_2 : TF Tryz.prog 27 2 3 := ⟨fo27_2⟩
instance i_bl29 : TB Tryz.prog 29 (fun i => (#[(0, 1), (1, 1), (2, 1), (3, 1), (4, 4)] : Array (Nat × Nat))[i]?) [.int .i64 0, .int .i64 0, .int .i64 0, .int .i64 0, .int .i64 0, .int .i64 0, .int .i64 0, .slice none 0 0] := ⟨bl29, zo29⟩
instance i_z29 : TV Tryz.prog 29 [.int .i64 0, .int .i64 0, .int .i64 0, .int .i64 0, .int .i64 0, .int .i64 0, .int .i64 0, .slice none 0 0] := ⟨z29, zo29⟩
instance i_agg29 : TA Tryz.prog 29 := ⟨agg29⟩
instance i_sz29 : TZ Tryz.prog 29 8 := ⟨sz29⟩
instance i_fo29_0 : TF Tryz.prog 29 0 0 := ⟨fo29_0⟩
instance i_fo29_1 : TF Tryz.prog 29 1 1 := ⟨fo29_1⟩
instance i_fo29_2 : TF Tryz.prog 29 2 2 := ⟨fo29_2⟩
instance i_fo29_3 : TF Tryz.prog 29 3 3 := ⟨fo29_3⟩
instance i_fo29_4 : TF Tryz.prog 29 4 4 := ⟨fo29_4⟩
instance i_one30 : T1 Tryz.prog 30 := ⟨one30⟩
instance i_sz30 : TZ Tryz.prog 30 1 := ⟨sz30⟩
instance i_underlying30 : TU Tryz.prog 30 (.slice 27) := ⟨Tryz.underlying30⟩
instance i_bl32 : TB Tryz.prog 32 (fun i => (#[(0, 1), (1, 1), (2, 1), (3, 1), (4, 1), (5, 1), (6, 1), (7, 1), (8, 1)] : Array (Nat × Nat))[i]?) [.string (ByteArray.mk #[]), .int .i64 0, .int .i64 0, .slice none 0 0, .bool false, .slice none 0 0, .slice none 0 0, .slice none 0 0, .bool false] := ⟨bl32, zo32⟩
instance i_agg32 : TA Tryz.prog 32 := ⟨agg32⟩
instance i_sz32 : TZ Tryz.prog 32 9 := ⟨sz32⟩
instance i_fo32_0 : TF Tryz.prog 32 0 0 := ⟨fo32_0⟩
instance i_fo32_1 : TF Tryz.prog 32 1 1 := ⟨fo32_1⟩
instance i_fo32_2 : TF Tryz.prog 32 2 2 := ⟨fo32_2⟩
instance i_fo32_3 : TF Tryz.prog 32 3 3 := ⟨fo32_3⟩
instance i_fo32_4 : TF Tryz.prog 32 4 4 := ⟨fo32_4⟩
instance i_fo32_5 : TF Tryz.prog 32 5 5 := ⟨fo32_5⟩
instance i_fo32_6 : TF Tryz.prog 32 6 6 := ⟨fo32_6⟩
instance i_fo32_7 : TF Tryz.prog 32 7 7 := ⟨fo32_7⟩
instance i_fo32_8 : TF Tryz.prog 32 8 8 := ⟨fo32_8⟩
instance i_one37 : T1 Tryz.prog 37 := ⟨one37⟩
instance i_underlying37 : TU Tryz.prog 37 (.slice 32) := ⟨Tryz.underlying37⟩
instance i_one38 : T1 Tryz.prog 38 := ⟨one38⟩
instance i_underlying38 : TU Tryz.prog 38 (.slice 80) := ⟨Tryz.underlying38⟩
instance i_one39 : T1 Tryz.prog 39 := ⟨one39⟩
instance i_underlying39 : TU Tryz.prog 39 (.slice 107) := ⟨Tryz.underlying39⟩
instance i_bl41 : TB Tryz.prog 41 (fun i => (#[(0, 1), (1, 1), (2, 1)] : Array (Nat × Nat))[i]?) (List.replicate 3 (.slice none 0 0)) := ⟨bl41, zo41⟩
instance i_agg41 : TA Tryz.prog 41 := ⟨agg41⟩
instance i_sz41 : TZ Tryz.prog 41 3 := ⟨sz41⟩
instance i_fo41_0 : TF Tryz.prog 41 0 0 := ⟨fo41_0⟩
instance i_fo41_1 : TF Tryz.prog 41 1 1 := ⟨fo41_1⟩
instance i_fo41_2 : TF Tryz.prog 41 2 2 := ⟨fo41_2⟩
instance i_underlying47 : TU Tryz.prog 47 (.slice 29) := ⟨Tryz.underlying47⟩
instance i_underlying59 : TU Tryz.prog 59 (.slice 3) := ⟨Tryz.underlying59⟩
instance i_one66 : T1 Tryz.prog 66 := ⟨one66⟩
instance i_one74 : T1 Tryz.prog 74 := ⟨one74⟩
instance i_sz74 : TZ Tryz.prog 74 1 := ⟨sz74⟩
instance i_underlying74 : TU Tryz.prog 74 (.slice 9) := ⟨Tryz.underlying74⟩
instance i_bl80 : TB Tryz.prog 80 (fun i => (#[(0, 1), (1, 1)] : Array (Nat × Nat))[i]?) (List.replicate 2 (.int .i64 0)) := ⟨bl80, zo80⟩
instance i_z80 : TV Tryz.prog 80 (List.replicate 2 (.int .i64 0)) := ⟨z80, zo80⟩
instance i_agg80 : TA Tryz.prog 80 := ⟨agg80⟩
instance i_sz80 : TZ Tryz.prog 80 2 := ⟨sz80⟩
instance i_fo80_0 : TF Tryz.prog 80 0 0 := ⟨fo80_0⟩
instance i_fo80_1 : TF Tryz.prog 80 1 1 := ⟨fo80_1⟩
instance i_bl101 : TB Tryz.prog 101 (fun i => (#[(0, 1), (1, 1)] : Array (Nat × Nat))[i]?) [.slice none 0 0, .int .i64 0] := ⟨bl101, zo101⟩
instance i_fo101_0 : TF Tryz.prog 101 0 0 := ⟨fo101_0⟩
instance i_fo101_1 : TF Tryz.prog 101 1 1 := ⟨fo101_1⟩
instance i_one105 : T1 Tryz.prog 105 := ⟨one105⟩
instance i_underlying105 : TU Tryz.prog 105 (.slice 152) := ⟨Tryz.underlying105⟩
instance i_bl107 : TB Tryz.prog 107 (fun i => (#[(0, 1), (1, 1), (2, 1), (3, 1), (4, 1)] : Array (Nat × Nat))[i]?) [.string (ByteArray.mk #[]), .int .i64 0, .int .i64 0, .slice none 0 0, .int .i64 0] := ⟨bl107, zo107⟩
instance i_z107 : TV Tryz.prog 107 [.string (ByteArray.mk #[]), .int .i64 0, .int .i64 0, .slice none 0 0, .int .i64 0] := ⟨z107, zo107⟩
instance i_agg107 : TA Tryz.prog 107 := ⟨agg107⟩
instance i_sz107 : TZ Tryz.prog 107 5 := ⟨sz107⟩
instance i_fo107_0 : TF Tryz.prog 107 0 0 := ⟨fo107_0⟩
instance i_fo107_1 : TF Tryz.prog 107 1 1 := ⟨fo107_1⟩
instance i_fo107_2 : TF Tryz.prog 107 2 2 := ⟨fo107_2⟩
instance i_fo107_3 : TF Tryz.prog 107 3 3 := ⟨fo107_3⟩
instance i_fo107_4 : TF Tryz.prog 107 4 4 := ⟨fo107_4⟩
instance i_underlying114 : TU Tryz.prog 114 (.slice 24) := ⟨Tryz.underlying114⟩
instance i_bl129 : TB Tryz.prog 129 (fun i => (#[(0, 1), (1, 1)] : Array (Nat × Nat))[i]?) (List.replicate 2 (.int .i64 0)) := ⟨bl129, zo129⟩
instance i_agg129 : TA Tryz.prog 129 := ⟨agg129⟩
instance i_sz129 : TZ Tryz.prog 129 2 := ⟨sz129⟩
instance i_fo129_0 : TF Tryz.prog 129 0 0 := ⟨fo129_0⟩
instance i_fo129_1 : TF Tryz.prog 129 1 1 := ⟨fo129_1⟩
instance i_z131 : TV Tryz.prog 131 [.int .i64 0, .string (ByteArray.mk #[]), .string (ByteArray.mk #[]), .int .i64 0, .int .i64 0, .int .i64 0, .int .i64 0, .int .i64 0, .int .i64 0, .int .i64 0, .bool false, .int .i64 0, .slice none 0 0, .int .i64 0, .int .i64 0] := ⟨z131, zo131⟩
instance i_agg131 : TA Tryz.prog 131 := ⟨agg131⟩
instance i_sz131 : TZ Tryz.prog 131 15 := ⟨sz131⟩
instance i_fo131_0 : TF Tryz.prog 131 0 0 := ⟨fo131_0⟩
instance i_fo131_1 : TF Tryz.prog 131 1 1 := ⟨fo131_1⟩
instance i_fo131_10 : TF Tryz.prog 131 10 12 := ⟨fo131_10⟩
instance i_fo131_11 : TF Tryz.prog 131 11 13 := ⟨fo131_11⟩
instance i_fo131_2 : TF Tryz.prog 131 2 2 := ⟨fo131_2⟩
instance i_fo131_3 : TF Tryz.prog 131 3 3 := ⟨fo131_3⟩
instance i_fo131_4 : TF Tryz.prog 131 4 5 := ⟨fo131_4⟩
instance i_fo131_5 : TF Tryz.prog 131 5 6 := ⟨fo131_5⟩
instance i_fo131_6 : TF Tryz.prog 131 6 8 := ⟨fo131_6⟩
instance i_fo131_7 : TF Tryz.prog 131 7 9 := ⟨fo131_7⟩
instance i_fo131_8 : TF Tryz.prog 131 8 10 := ⟨fo131_8⟩
instance i_fo131_9 : TF Tryz.prog 131 9 11 := ⟨fo131_9⟩
instance i_bl152 : TB Tryz.prog 152 (fun i => (#[(0, 2), (2, 1)] : Array (Nat × Nat))[i]?) (List.replicate 3 (.int .i64 0)) := ⟨bl152, zo152⟩
instance i_z152 : TV Tryz.prog 152 (List.replicate 3 (.int .i64 0)) := ⟨z152, zo152⟩
instance i_agg152 : TA Tryz.prog 152 := ⟨agg152⟩
instance i_sz152 : TZ Tryz.prog 152 3 := ⟨sz152⟩
instance i_fo152_0 : TF Tryz.prog 152 0 0 := ⟨fo152_0⟩
instance i_fo152_1 : TF Tryz.prog 152 1 2 := ⟨fo152_1⟩
instance i_one156 : T1 Tryz.prog 156 := ⟨one156⟩
instance i_one157 : T1 Tryz.prog 157 := ⟨one157⟩
instance i_bl159 : TB Tryz.prog 159 (fun i => (#[(0, 1), (1, 8), (9, 8)] : Array (Nat × Nat))[i]?) [.pointer none, .int .i64 0, .int .i64 0, .int .i64 0, .int .i64 0, .int .i64 0, .int .i64 0, .int .i64 0, .slice none 0 0, .int .i64 0, .int .i64 0, .int .i64 0, .int .i64 0, .int .i64 0, .int .i64 0, .int .i64 0, .slice none 0 0] := ⟨bl159, zo159⟩
instance i_fo159_0 : TF Tryz.prog 159 0 0 := ⟨fo159_0⟩
instance i_fo159_1 : TF Tryz.prog 159 1 1 := ⟨fo159_1⟩
instance i_fo159_2 : TF Tryz.prog 159 2 9 := ⟨fo159_2⟩
instance i_bl161 : TB Tryz.prog 161 (fun i => some (i * 1, 1)) (List.replicate 13 (.nilFunc)) := ⟨bl161, zo161⟩
instance i_sz161 : TZ Tryz.prog 161 13 := ⟨sz161⟩
instance i_bl170 : TB Tryz.prog 170 (fun i => (#[(0, 1), (1, 1), (2, 2), (4, 2), (6, 2), (8, 2), (10, 1), (11, 1)] : Array (Nat × Nat))[i]?) [.int .i64 0, .string (ByteArray.mk #[]), .int .i64 0, .int .i64 0, .int .i64 0, .int .i64 0, .int .i64 0, .int .i64 0, .int .i64 0, .int .i64 0, .int .i64 0, .int .i64 0] := ⟨bl170, zo170⟩
instance i_agg170 : TA Tryz.prog 170 := ⟨agg170⟩
instance i_sz170 : TZ Tryz.prog 170 12 := ⟨sz170⟩
instance i_one198 : T1 Tryz.prog 198 := ⟨one198⟩
instance i_underlying198 : TU Tryz.prog 198 (.slice 5) := ⟨Tryz.underlying198⟩
instance i_bl209 : TB Tryz.prog 209 (fun i => (#[(0, 1), (1, 1)] : Array (Nat × Nat))[i]?) [.string (ByteArray.mk #[]), .int .i64 0] := ⟨bl209, zo209⟩
instance i_z209 : TV Tryz.prog 209 [.string (ByteArray.mk #[]), .int .i64 0] := ⟨z209, zo209⟩
instance i_sz209 : TZ Tryz.prog 209 2 := ⟨sz209⟩
instance i_fo209_1 : TF Tryz.prog 209 1 1 := ⟨fo209_1⟩
instance i_underlying210 : TU Tryz.prog 210 (.slice 209) := ⟨Tryz.underlying210⟩
instance i_one221 : T1 Tryz.prog 221 := ⟨one221⟩
instance i_bl223 : TB Tryz.prog 223 (fun i => (#[(0, 1), (1, 1), (2, 1), (3, 1)] : Array (Nat × Nat))[i]?) [.int .i64 0, .slice none 0 0, .bool false, .slice none 0 0] := ⟨bl223, zo223⟩
instance i_agg223 : TA Tryz.prog 223 := ⟨agg223⟩
instance i_sz223 : TZ Tryz.prog 223 4 := ⟨sz223⟩
instance i_fo223_0 : TF Tryz.prog 223 0 0 := ⟨fo223_0⟩
instance i_fo223_1 : TF Tryz.prog 223 1 1 := ⟨fo223_1⟩
instance i_fo223_2 : TF Tryz.prog 223 2 2 := ⟨fo223_2⟩
instance i_fo223_3 : TF Tryz.prog 223 3 3 := ⟨fo223_3⟩
instance i_bl244 : TB Tryz.prog 244 (fun i => (#[(0, 1), (1, 1), (2, 1), (3, 1), (4, 1)] : Array (Nat × Nat))[i]?) [.string (ByteArray.mk #[]), .int .i64 0, .int .i64 0, .slice none 0 0, .slice none 0 0] := ⟨bl244, zo244⟩
instance i_sz244 : TZ Tryz.prog 244 5 := ⟨sz244⟩
instance i_fo244_1 : TF Tryz.prog 244 1 1 := ⟨fo244_1⟩
instance i_fo244_2 : TF Tryz.prog 244 2 2 := ⟨fo244_2⟩
instance i_fo244_3 : TF Tryz.prog 244 3 3 := ⟨fo244_3⟩
instance i_fo244_4 : TF Tryz.prog 244 4 4 := ⟨fo244_4⟩
instance i_bl272 : TB Tryz.prog 272 (fun i => some (i * 5, 5)) [.string (ByteArray.mk #[]), .int .i64 0, .int .i64 0, .slice none 0 0, .slice none 0 0, .string (ByteArray.mk #[]), .int .i64 0, .int .i64 0, .slice none 0 0, .slice none 0 0, .string (ByteArray.mk #[]), .int .i64 0, .int .i64 0, .slice none 0 0, .slice none 0 0, .string (ByteArray.mk #[]), .int .i64 0, .int .i64 0, .slice none 0 0, .slice none 0 0, .string (ByteArray.mk #[]), .int .i64 0, .int .i64 0, .slice none 0 0, .slice none 0 0, .string (ByteArray.mk #[]), .int .i64 0, .int .i64 0, .slice none 0 0, .slice none 0 0, .string (ByteArray.mk #[]), .int .i64 0, .int .i64 0, .slice none 0 0, .slice none 0 0, .string (ByteArray.mk #[]), .int .i64 0, .int .i64 0, .slice none 0 0, .slice none 0 0, .string (ByteArray.mk #[]), .int .i64 0, .int .i64 0, .slice none 0 0, .slice none 0 0, .string (ByteArray.mk #[]), .int .i64 0, .int .i64 0, .slice none 0 0, .slice none 0 0, .string (ByteArray.mk #[]), .int .i64 0, .int .i64 0, .slice none 0 0, .slice none 0 0, .string (ByteArray.mk #[]), .int .i64 0, .int .i64 0, .slice none 0 0, .slice none 0 0, .string (ByteArray.mk #[]), .int .i64 0, .int .i64 0, .slice none 0 0, .slice none 0 0, .string (ByteArray.mk #[]), .int .i64 0, .int .i64 0, .slice none 0 0, .slice none 0 0, .string (ByteArray.mk #[]), .int .i64 0, .int .i64 0, .slice none 0 0, .slice none 0 0, .string (ByteArray.mk #[]), .int .i64 0, .int .i64 0, .slice none 0 0, .slice none 0 0, .string (ByteArray.mk #[]), .int .i64 0, .int .i64 0, .slice none 0 0, .slice none 0 0, .string (ByteArray.mk #[]), .int .i64 0, .int .i64 0, .slice none 0 0, .slice none 0 0, .string (ByteArray.mk #[]), .int .i64 0, .int .i64 0, .slice none 0 0, .slice none 0 0, .string (ByteArray.mk #[]), .int .i64 0, .int .i64 0, .slice none 0 0, .slice none 0 0, .string (ByteArray.mk #[]), .int .i64 0, .int .i64 0, .slice none 0 0, .slice none 0 0, .string (ByteArray.mk #[]), .int .i64 0, .int .i64 0, .slice none 0 0, .slice none 0 0, .string (ByteArray.mk #[]), .int .i64 0, .int .i64 0, .slice none 0 0, .slice none 0 0] := ⟨bl272, zo272⟩
instance i_sz272 : TZ Tryz.prog 272 115 := ⟨sz272⟩
instance i_bl292 : TB Tryz.prog 292 (fun i => some (i * 1, 1)) (List.replicate 2 (.int .i64 0)) := ⟨bl292, zo292⟩
instance i_sz292 : TZ Tryz.prog 292 2 := ⟨sz292⟩
instance i_bl293 : TB Tryz.prog 293 (fun i => some (i * 2, 2)) (List.replicate 10 (.int .i64 0)) := ⟨bl293, zo293⟩
end Go.Proofs.YtppeeogffbpcbaaGreat
namespace Go.Proofs.YtppeeogffbpcbaaGreat
open Go Go.RowKit Cp

abbrev ints (l : List Int) : Pr := slice 1 (l.map fun n => [int n])

/-- The index of the first that p takes, -1 for none. -/
def idx {β : Type} (p : β → Bool) (l : List β) : Int := match l.findIdx? p with | some i => i | none => -1
theorem idx_found {β : Type} {p : β → Bool} {l : List β} {k : Nat} {x : β} (hx : l[k]? = some x) (hp : p x = true) (h : ∀ j y, j < k → l[j]? = some y → p y = false) : (k : Int) = idx p l := by
  have : l.findIdx? p = some k := by
    rw [List.findIdx?_eq_some_iff_getElem]
    have hk : k < l.length := by rcases Nat.lt_or_ge k l.length with h | h; exact h; rw [List.getElem?_eq_none h] at hx; cases hx
    rw [List.getElem?_eq_getElem hk] at hx
    simp only [Option.some.injEq] at hx
    refine ⟨hk, by rw [hx]; exact hp, fun j hj => ?_⟩
    simpa using h j _ hj (List.getElem?_eq_getElem (by omega))
  unfold idx; rw [this]
theorem idx_none {β : Type} {p : β → Bool} {l : List β} (h : ∀ j y, j < l.length → l[j]? = some y → p y = false) : (-1 : Int) = idx p l := by
  have : l.findIdx? p = none := by
    rw [List.findIdx?_eq_none_iff]
    intro x hx
    obtain ⟨j, hj, rfl⟩ := List.mem_iff_getElem.1 hx
    exact h j _ hj (List.getElem?_eq_getElem hj)
  unfold idx; rw [this]
theorem idx_any {β : Type} (p : β → Bool) (l : List β) : decide (idx p l ≥ 0) = l.any p := by
  unfold idx
  cases h : l.findIdx? p with
  | none => rw [List.findIdx?_eq_none_iff] at h; simp; intro x hx; simpa using h x hx
  | some i =>
    rw [List.findIdx?_eq_some_iff_getElem] at h
    obtain ⟨h1, h2, _⟩ := h
    simp
    exact ⟨_, List.getElem_mem h1, h2⟩
theorem step_no {β : Type} {p : β → Bool} {l : List β} {k : Nat} {x : β} (hx : l[k]? = some x) (hp : p x = false) (h : ∀ j y, j < k → l[j]? = some y → p y = false) : ∀ j y, j < k + 1 → l[j]? = some y → p y = false := by
  intro j y hj hy
  by_cases hjk : j = k
  · subst hjk; rw [hx] at hy; cases hy; exact hp
  · exact h j y (by omega) hy

theorem w_IndexFuncI {l : List Int} {p : Int → Bool}  : Fun Tryz.prog 193 [ints l, clo Tryz.prog (fun x : Int => [int x]) (fun x => bool (p x))] (int (idx p l)) := by
 refine fo Tryz.func193 rfl ⟨rfl, rfl⟩ fun M0 w0 => (Tr.lenm 0 rfl fun hlm_0 => ?_)
 refine ac ?_
 refine ac ?_
 refine Tr.block (Tr.loopw [(0, _), (1, _), (7, _)] (kk3 rfl) (fun k : Nat => [(8, int ((k : Nat) : Int))]) (fun k : Nat => k ≤ (l).length ∧ (∀ j y, j < k → l[j]? = some y → p y = false)) (fun k : Nat => (l).length - k) 0 (⟨Nat.zero_le _, fun j y hj => absurd hj (by omega)⟩) ⟨ke rfl, trivial⟩ ?_)
 rintro k ⟨hle_k, hinv_k⟩
 refine ac ?_
 refine Tr.seq ?_
 refine Tr.cn rfl ?_ ?_ <;> intro h1 q1
 have hk_k : k < (l).length := lt_of_dec h1
 obtain ⟨x, hx_k⟩ := at_ hk_k
 refine ac ?_
 refine ac ?_
 refine ac ?_
 refine co rfl (ok_indexAddr rfl Tryz.underlying22 sz3 (vl rfl) (vl rfl) (by omega) (by exact row_at (by assumption))) ?_
 refine co rfl (kl1 rfl one3 rfl) (co rfl (ok_callc x rfl (vl rfl) ⟨ke rfl, trivial⟩) ?_)
 refine ac ?_
 refine Tr.cn rfl ?_ ?_ <;> intro h2 q2
 refine ac ?_
 refine wk1 4 rfl ?_
 refine ac ?_
 · exact int_eq (idx_found hx_k (by assumption) hinv_k)
 refine ac ?_
 refine ac ?_
 exact Fin.fam_same (k + 1) ⟨⟨hk_k, step_no hx_k (by assumption) hinv_k⟩, by omega⟩ ⟨⟨_, rfl, int_succ k⟩, ke rfl, ke rfl, ke rfl, trivial⟩
 have he_k : k = (l).length := by have := ge_of_dec h1; omega
 subst he_k
 refine ac ?_
 refine ac ?_
 refine ac ?_
 · exact int_eq (idx_none hinv_k)
theorem w_ContainsFuncI {l : List Int} {p : Int → Bool}  : Fun Tryz.prog 148 [ints l, clo Tryz.prog (fun x : Int => [int x]) (fun x => bool (p x))] (bool (l.any p)) := by
 refine fo Tryz.func148 rfl ⟨rfl, rfl⟩ fun M0 w0 => ?_
 refine ac ?_
 refine ac ?_
 refine co rfl (kc2 (w_IndexFuncI) rfl rfl rfl) ?_
 refine ac ?_
 refine ac ?_
 · exact bool_eq (idx_any p l)
theorem w_IndexI {l : List Int} {v : Int}  : Fun Tryz.prog 207 [ints l, int v] (int (idx (fun x => v == x) l)) := by
 refine fo Tryz.func207 rfl ⟨rfl, rfl⟩ fun M0 w0 => (Tr.lenm 0 rfl fun hlm_0 => ?_)
 refine ac ?_
 refine ac ?_
 refine Tr.block (Tr.loopw [(0, _), (1, _), (7, _)] (kk3 rfl) (fun k : Nat => [(8, int ((k : Nat) : Int))]) (fun k : Nat => k ≤ (l).length ∧ (∀ j y, j < k → l[j]? = some y → (v == y) = false)) (fun k : Nat => (l).length - k) 0 (⟨Nat.zero_le _, fun j y hj => absurd hj (by omega)⟩) ⟨ke rfl, trivial⟩ ?_)
 rintro k ⟨hle_k, hinv_k⟩
 refine ac ?_
 refine Tr.seq ?_
 refine Tr.cn rfl ?_ ?_ <;> intro h1 q1
 have hk_k : k < (l).length := lt_of_dec h1
 obtain ⟨x, hx_k⟩ := at_ hk_k
 refine ac ?_
 refine ac ?_
 refine ac ?_
 refine co rfl (ok_indexAddr rfl Tryz.underlying22 sz3 (vl rfl) (vl rfl) (by omega) (by exact row_at (by assumption))) ?_
 refine ac ?_
 refine Tr.cn rfl ?_ ?_ <;> intro h2 q2
 refine ac ?_
 refine wk1 4 rfl ?_
 refine ac ?_
 · exact int_eq (idx_found (p := fun x => v == x) hx_k (by assumption) hinv_k)
 refine ac ?_
 refine ac ?_
 exact Fin.fam_same (k + 1) ⟨⟨hk_k, step_no (p := fun x => v == x) hx_k (by assumption) hinv_k⟩, by omega⟩ ⟨⟨_, rfl, int_succ k⟩, ke rfl, ke rfl, ke rfl, trivial⟩
 have he_k : k = (l).length := by have := ge_of_dec h1; omega
 subst he_k
 refine ac ?_
 refine ac ?_
 refine ac ?_
 · exact int_eq (idx_none hinv_k)
theorem w_ContainsI {l : List Int} {v : Int}  : Fun Tryz.prog 190 [ints l, int v] (bool (l.any fun x => v == x)) := by
 refine fo Tryz.func190 rfl ⟨rfl, rfl⟩ fun M0 w0 => ?_
 refine ac ?_
 refine ac ?_
 refine co rfl (kc2 (w_IndexI) rfl rfl rfl) ?_
 refine ac ?_
 refine ac ?_
 · exact bool_eq (idx_any _ l)
end Go.Proofs.YtppeeogffbpcbaaGreat
namespace Go.Proofs.YtppeeogffbpcbaaGreat
open Go Go.RowKit Cp Go.ChangeShapes Go.WideShapes Go.ChangeAt

theorem own0 : ownKnob Tryz.prog.godebug = none := by kernel_rfl
theorem laidOut0 : laidOutB Tryz.prog = true := by kernel_rfl
theorem i64_in {n : Int} (h : (Lit.int .i64 n).wf = true) : InI n := by
  simp only [Lit.wf, Bool.and_eq_true, decide_eq_true_eq] at h
  have h1 : IntKind.i64.min = -9223372036854775808 := rfl
  have h2 : IntKind.i64.max = 9223372036854775807 := rfl
  unfold InI; omega
theorem opens_ints {P : Program} {t e : TypeId} (ht : P.underlying t = some (.slice e)) (he : P.underlying e = some (.int .i64)) (hc : P.cellsOf e = 1) : Opens P t (fun l : List Int => l.length ≤ maxLen ∧ ∀ n ∈ l, InI n) (fun l => [ints l]) :=
  (opens_slice ht hc (opens_int he)).map id (fun _ h => ⟨h.2, fun n hn => i64_in (h.1 n hn)⟩) (fun _ => rfl)

end Go.Proofs.YtppeeogffbpcbaaGreat
namespace Go.Proofs.YtppeeogffbpcbaaGreat
open Go Go.RowKit Cp

abbrev diceS (b : Nat) (s : DS) : Res := diceR 101 b s
theorem mod_pos (n : Int) {k : Int} (hk : 1 ≤ k) : (n.tmod k + k).tmod k = n % k := by
  have h1 : -k < n.tmod k := by have := Int.lt_tmod_of_pos n (b := k) (by omega); omega
  rw [Int.tmod_eq_emod_of_nonneg (by omega), Int.tmod_def, show n - k * n.tdiv k + k = n + k * (1 - n.tdiv k) by rw [Int.mul_sub]; omega, Int.add_mul_emod_self_left]
theorem mod_in (n : Int) {k : Int} (hk : 1 ≤ k) : -k < n.tmod k ∧ n.tmod k < k := by
  have h1 := Int.lt_tmod_of_pos n (b := k) (by omega)
  have h2 := Int.tmod_lt_of_pos n (b := k) (by omega)
  omega

theorem w_Light {l : List Int}  : Fun Tryz.prog 10 [ints l] (bool (decide (l.length ≤ 400))) := by
 refine fo Tryz.func10 rfl ⟨rfl, rfl⟩ fun M0 w0 => ?_
 refine ac ?_
 refine ac ?_
 refine ac ?_
 · refine bool_eq ?_; simp_all; omega
theorem w_Mod {n k : Int} (hk : 1 ≤ k) (hk2 : k ≤ 1000000000) : Fun Tryz.prog 104 [int n, int k] (int (n % k)) := by
 refine fo Tryz.func104 rfl ⟨rfl, rfl⟩ fun M0 w0 => ?_
 have hm := mod_in n hk
 have hp := mod_pos n hk
 refine ac ?_
 refine ac ?_
 refine Tr.cn rfl ?_ ?_ <;> intro h1 q1
 refine ac ?_
 refine ac ?_
 · exfalso; omega
 refine ac ?_
 refine ac ?_
 refine co rfl (ok_rem rfl (vl rfl) (vl rfl) (by omega)) ?_
 refine ac ?_
 refine co rfl (ok_rem rfl (vl rfl) (vl rfl) (by omega)) ?_
 refine ac ?_
 refine ac ?_
 · refine int_eq ?_; exact hp
theorem w_DNext {b : Nat} {s : DS} {n : Int} (hn : 1 ≤ n) (hn2 : n ≤ 1000000000) : FunM Tryz.prog 52 [ptr b 0, int n] (int (s.val n)) (diceS b s) (fun _ => diceS b s.adv) := by
 refine FunM.of Tryz.func52 rfl rfl (by exact Nat.le_of_ble_eq_true rfl) fun M0 w0 S rs M1 w1 => ?_
 have hs := s.h
 have hs2 := s.h2
 refine ac ?_
 refine ac ?_
 refine Tr.cn rfl ?_ ?_ <;> intro h1 q1
 refine ac ?_
 refine Tr.ret (Fin.then_ret ?_)
 rw [DS.adv_end (s := s) (by omega)]
 refine Fin.retY1 [] rfl (RVal.tmp rfl (Pr.le_refl _)) ?_ (fun _ _ _ _ => rfl)
 · refine int_eq ?_; exact (DS.val_end (by omega) n).symm
 have hlt : s.at_ < s.l.length := by omega
 obtain ⟨x, hx⟩ := at_ hlt
 refine ac ?_
 refine ap ?_
 refine wk2 0 1 rfl ?_
 refine ac ?_
 refine co rfl (ok_indexAddr rfl Tryz.underlying22 sz3 (vl rfl) (vl rfl) (by omega) (by rw [show ((s.at_ : Nat) : Int) + 1 - 1 = ((s.at_ : Nat) : Int) by omega]; exact row_at hx)) ?_
 refine ac ?_
 refine co rfl (kc2 (w_Mod (by omega) (by omega)) rfl rfl rfl) ?_
 refine ac ?_
 refine wk1 4 rfl (Tr.ret ?_)
 rw [DS.adv_at hlt]
 refine Fin.retY1 [] rfl (RVal.tmp rfl (Pr.le_refl _)) ?_ (fun _ _ _ _ => rfl)
 · refine int_eq ?_; exact (DS.val_at hx n).symm
theorem w_DOf {b : Nat} {s : DS} {l : List Int} (hl : l ≠ []) (hl2 : l.length ≤ 1000000000) : FunM Tryz.prog 59 [ptr b 0, ints l] (int (s.of l)) (diceS b s) (fun _ => diceS b s.adv) := by
 refine FunM.of Tryz.func59 rfl rfl (by exact Nat.le_of_ble_eq_true rfl) fun M0 w0 S rs M1 w1 => ?_
 have hl0 : 1 ≤ (l.length : Int) := by have := List.length_pos_iff.2 hl; omega
 have hv := s.val_in hl0
 obtain ⟨x, hx⟩ := at_ (l := l) (k := (s.val l.length).toNat) (by omega)
 refine ac ?_
 refine ap ?_
 refine TO.efc 0 rfl rfl (by decide) (ef_callc rfl rfl (by decide) rfl (w_DNext (by omega) (by omega)) ⟨ke rfl, ke rfl, trivial⟩) (tp rfl (ok_indexAddr rfl Tryz.underlying22 sz3 (vl rfl) (vl rfl) (by omega) (row_atI hx)) ?_)
 refine ap ?_
 refine Tr.ret (Fin.retY1 [] rfl (RVal.tmp rfl (Pr.le_refl _)) ?_ (fun _ _ _ _ => rfl))
 · refine int_eq ?_; unfold DS.of; rw [hx]; rfl
theorem w_DOne {b : Nat} {s : DS} {n : Int} (hn : 1 ≤ n) (hn2 : n ≤ 1000000000) : FunM Tryz.prog 36 [ptr b 0, int n] (bool (s.val n == n - 1)) (diceS b s) (fun _ => diceS b s.adv) := by
 refine FunM.of Tryz.func36 rfl rfl (by exact Nat.le_of_ble_eq_true rfl) fun M0 w0 S rs M1 w1 => ?_
 refine ac ?_
 refine ap ?_
 refine TO.efc 0 rfl rfl (by decide) (ef_callc rfl rfl (by decide) rfl (w_DNext (by omega) (by omega)) ⟨ke rfl, ke rfl, trivial⟩) ?_
 refine ap ?_
 refine Tr.ret (Fin.retY1 [] rfl (RVal.tmp rfl (Pr.le_refl _)) ?_ (fun _ _ _ _ => rfl))
 · exact Pr.le_refl _
/-- New dice. -/
def newDice (l : List Int) (hl : l.length ≤ 1000000000) (v : Value) : Res := match v with | .pointer (some a) => diceR 101 a.block ⟨l, 0, Nat.zero_le _, hl⟩ | _ => noRes

theorem w_Roll {l : List Int} (hl : l.length ≤ 1000000000) : FunM Tryz.prog 12 [ints l] (ex fun b => ptr b 0) (noRes) (newDice l hl) := by
 refine FunM.of Tryz.func12 rfl rfl (by exact Nat.le_of_ble_eq_true rfl) fun M0 w0 S rs M1 w1 => ?_
 refine ac ?_
 refine ap ?_
 refine TO.boxm rfl rfl (by decide) rfl (VL.le (vl rfl) (agg_cellsP _)) (fun b1 => ?_)
 refine ap ?_
 refine Tr.ret (Fin.drop 1 ?_)
 refine Fin.retY1 [] rfl (RVal.tmp rfl (Pr.le_refl _)) ?_ (by rintro _ _ _ rfl; rfl)
 · exact ex_in b1 (Pr.le_refl _)
end Go.Proofs.YtppeeogffbpcbaaGreat
namespace Go.Proofs.YtppeeogffbpcbaaGreat
open Go Go.RowKit Cp
-- no type cipherplan/api.Fact here
-- no type cipherplan/asset.place here
theorem eqv24 {d : Nat} {w : World} {x0 y0 : Int} {x1 y1 : Int} : (Op.equalIn (d + 2) 24 (.agg #[.int .i64 x0, .int .i64 x1]) (.agg #[.int .i64 y0, .int .i64 y1])).run Tryz.prog w = .ok (decide (x0 = y0 ∧ x1 = y1)) w := by
  have h := eqS (w := w) (d := d + 1) (xs := #[.int .i64 x0, .int .i64 x1]) (ys := #[.int .i64 y0, .int .i64 y1]) Tryz.underlying24 (by kernel_rfl) (eqF_cons (by decide) (part_leaf one3 rfl) (part_leaf one3 rfl) (eq_intL (d := d + 0) Tryz.underlying3) (eqF_cons (by decide) (part_leaf one3 rfl) (part_leaf one3 rfl) (eq_intL (d := d + 0) Tryz.underlying3) (eqF_nil)))
  refine h.trans (congrArg (fun b => Result.ok b w) ?_)
  rw [Bool.eq_iff_iff]; simp [and_assoc]
theorem ok_eq24 {E : Env} {I : Asn} {o : Oper} {u : TypeId} {x y : Operand} {x0 y0 : Int} {x1 y1 : Int} (ho : o.op = .binOp .eql 24 x y u) (hx : VL E x (agg [is (.int .i64 x0), is (.int .i64 x1)])) (hy : VL E y (agg [is (.int .i64 y0), is (.int .i64 y1)])) : OpOK Tryz.prog I o E (bool (decide (x0 = y0 ∧ x1 = y1))) :=
  ok_eqagg [.int .i64 x0, .int .i64 x1] [.int .i64 y0, .int .i64 y1] ho hx hy (by kernel_rfl) (fun w => by rw [show Op.equal 24 _ _ = Op.equalIn (9998 + 2) 24 _ _ from rfl]; exact eqv24)
theorem ok_ne24 {E : Env} {I : Asn} {o : Oper} {u : TypeId} {x y : Operand} {x0 y0 : Int} {x1 y1 : Int} (ho : o.op = .binOp .neq 24 x y u) (hx : VL E x (agg [is (.int .i64 x0), is (.int .i64 x1)])) (hy : VL E y (agg [is (.int .i64 y0), is (.int .i64 y1)])) : OpOK Tryz.prog I o E (bool (!decide (x0 = y0 ∧ x1 = y1))) :=
  ok_neagg [.int .i64 x0, .int .i64 x1] [.int .i64 y0, .int .i64 y1] ho hx hy (by kernel_rfl) (fun w => by rw [show Op.equal 24 _ _ = Op.equalIn (9998 + 2) 24 _ _ from rfl]; exact eqv24)
end Go.Proofs.YtppeeogffbpcbaaGreat
namespace Go.Proofs.YtppeeogffbpcbaaGreat
open Go Go.RowKit Cp

def okc (c : UInt8) : Bool := decide (33 ≤ c.toNat ∧ c.toNat ≤ 126)
def named (s : List UInt8) : Bool := s.all okc && decide (1 ≤ s.length ∧ s.length ≤ 32)
theorem all_hit {β : Type} {p : β → Bool} {l : List β} {k : Nat} {x : β} (hx : l[k]? = some x) (hp : p x = false) : l.all p = false := by
  rw [Bool.eq_false_iff]; intro h; rw [List.all_eq_true] at h; rw [h x (List.mem_of_getElem? hx)] at hp; cases hp
theorem all_end {β : Type} {p : β → Bool} {l : List β} (h : ∀ j y, j < l.length → l[j]? = some y → (!p y) = false) : l.all p = true := by
  rw [List.all_eq_true]
  intro y hy
  obtain ⟨j, hj⟩ := List.mem_iff_getElem?.1 hy
  have := h j y (by rcases Nat.lt_or_ge j l.length with h | h; exact h; rw [List.getElem?_eq_none h] at hj; cases hj) hj
  simpa using this

theorem w_Named {s : List UInt8} (hs : s.length ≤ maxLen) : Fun Tryz.prog 184 [str s] (bool (named s)) := by
 refine fo Tryz.func184 rfl ⟨rfl, rfl⟩ fun M0 w0 => ?_
 refine ac ?_
 refine ac ?_
 refine co rfl (ok_bytes rfl Tryz.underlying9 Tryz.underlying198 Tryz.underlying5 (vl rfl) (by assumption)) ?_
 refine ac ?_
 refine Tr.block (Tr.lenm 6 rfl fun hl6 => (Tr.loopw [(0, _), (6, _), (7, _)] (kk3 rfl) (fun k : Nat => [(8, int ((k : Nat) : Int))]) (fun k : Nat => k ≤ (s).length ∧ (∀ j y, j < k → s[j]? = some y → (!okc y) = false)) (fun k : Nat => (s).length - k) 0 (⟨Nat.zero_le _, fun j y hj => absurd hj (by omega)⟩) ⟨ke rfl, trivial⟩ ?_))
 rintro k ⟨hle_k, hinv_k⟩
 refine ac ?_
 refine Tr.seq ?_
 refine Tr.cn rfl ?_ ?_ <;> intro h1 q1
 have hk_k : k < (s).length := lt_of_dec h1
 obtain ⟨c, hx_k⟩ := at_ hk_k
 refine ac ?_
 refine Tr.seq (Tr.block (Tr.seq (Tr.reg0 (co rfl (ok_indexAddr rfl Tryz.underlying198 sz5 (vl rfl) (vl rfl) (by omega) (by exact row_at (by assumption))) ?_))))
 refine ac ?_
 refine ac ?_
 refine Ch.cs 14 rfl ?_ ?_ <;> intro h2 q2
 refine ac ?_
 refine wk5 0 6 7 8 17 rfl ?_
 refine ac ?_
 refine ac ?_
 · refine bool_eq ?_; unfold named; rw [all_hit (p := okc) hx_k (by simp [okc]; omega)]; rfl
 refine ac ?_
 refine wk5 0 6 7 8 17 rfl ?_
 refine Tr.cn rfl ?_ ?_ <;> intro h3 q3
 refine ac ?_
 refine ac ?_
 · refine bool_eq ?_; unfold named; rw [all_hit (p := okc) hx_k (by simp [okc]; omega)]; rfl
 refine ac ?_
 refine ac ?_
 exact Fin.fam_same (k + 1) ⟨⟨hk_k, step_no (p := fun c => !okc c) hx_k (by simp [okc]; omega) hinv_k⟩, by omega⟩ ⟨⟨_, rfl, int_succ k⟩, ke rfl, ke rfl, ke rfl, trivial⟩
 have he_k : k = (s).length := by have := ge_of_dec h1; omega
 subst he_k
 refine ac ?_
 refine ac ?_
 refine Ch.cs 22 rfl ?_ ?_ <;> intro h4 q4
 refine ac ?_
 refine wk1 2 rfl ?_
 refine ac ?_
 · refine bool_eq ?_; unfold named; rw [all_end hinv_k, Bool.true_and]; rw [decide_eq_decide]; omega
 refine ac ?_
 refine wk1 2 rfl ?_
 refine ac ?_
 · refine bool_eq ?_; unfold named; rw [all_end hinv_k, Bool.true_and]; (symm; rw [decide_eq_false_iff_not]; omega)
theorem w_RName {s : List UInt8}  : Fun Tryz.prog 186 [str s] (bool (named s)) := by
 refine fo Tryz.func186 rfl ⟨rfl, rfl⟩ fun M0 w0 => ?_
 refine ac ?_
 refine ac ?_
 refine Ch.cs 7 rfl ?_ ?_ <;> intro h1 q1
 refine ac ?_
 refine ac ?_
 refine ac ?_
 · refine bool_eq ?_; unfold named; rw [Bool.and_eq_false_iff.2 (.inr (by simp; omega))]
 refine ac ?_
 refine Tr.cn rfl ?_ ?_ <;> intro h2 q2
 refine ac ?_
 refine ac ?_
 · refine bool_eq ?_; unfold named; rw [Bool.and_eq_false_iff.2 (.inr (by simp; omega))]
 refine ac ?_
 refine ac ?_
 refine Tr.block (Tr.loopw [(0, _)] ⟨ke rfl, trivial⟩ (fun k : Nat => [(3, int ((k : Nat) : Int))]) (fun k : Nat => k ≤ (s).length ∧ (∀ j y, j < k → s[j]? = some y → (!okc y) = false)) (fun k : Nat => (s).length - k) 0 (⟨Nat.zero_le _, fun j y hj => absurd hj (by omega)⟩) ⟨ke rfl, trivial⟩ ?_)
 rintro k ⟨hle_k, hinv_k⟩
 refine ac ?_
 refine Tr.cn rfl ?_ ?_ <;> intro h3 q3
 have hk_k : k < (s).length := lt_of_dec h3
 obtain ⟨c, hx_k⟩ := at_ hk_k
 refine ac ?_
 refine ac ?_
 refine co rfl (ok_sidx rfl Tryz.underlying9 (vl rfl) (vl rfl) (by omega) (sidx_at (by assumption))) ?_
 refine ac ?_
 refine Ch.cs 22 rfl ?_ ?_ <;> intro h4 q4
 refine ac ?_
 refine wk3 0 3 27 rfl ?_
 refine ac ?_
 refine ac ?_
 · refine bool_eq ?_; unfold named; rw [all_hit (p := okc) hx_k (by simp [okc]; omega)]; rfl
 refine ac ?_
 refine cy h4 rfl (ok_sidx rfl Tryz.underlying9 (vl rfl) (vl rfl) (by omega) (sidx_at (by assumption))) ?_
 refine ac ?_
 refine wk3 0 3 27 rfl ?_
 refine Tr.cn rfl ?_ ?_ <;> intro h5 q5
 refine ac ?_
 refine ac ?_
 · refine bool_eq ?_; unfold named; rw [all_hit (p := okc) hx_k (by simp [okc]; omega)]; rfl
 refine ac ?_
 refine ac ?_
 exact Fin.fam_same (k + 1) ⟨⟨hk_k, step_no (p := fun c => !okc c) hx_k (by simp [okc]; omega) hinv_k⟩, by omega⟩ ⟨⟨_, rfl, int_succ k⟩, ke rfl, trivial⟩
 have he_k : k = (s).length := by have := ge_of_dec h3; omega
 subst he_k
 refine ac ?_
 refine ac ?_
 refine ac ?_
 · refine bool_eq ?_; unfold named; rw [all_end hinv_k, Bool.true_and]; symm; rw [decide_eq_true_eq]; omega
end Go.Proofs.YtppeeogffbpcbaaGreat
namespace Go.Proofs.YtppeeogffbpcbaaGreat
open Go Go.RowKit Cp

structure CatRow where
  name : List UInt8
  kind : Int
  way : Int
  sizes : List Int
  strengths : List Int
abbrev rowC (r : CatRow) : List Pr := [str r.name, int r.kind, int r.way, ints r.sizes, ints r.strengths]
def catTable : List CatRow := [⟨[], 0, 0, [], []⟩, ⟨[109, 100, 53], 1, 0, [], [18]⟩, ⟨[115, 104, 97, 49], 1, 0, [], [60]⟩, ⟨[115, 104, 97, 50, 53, 54], 1, 0, [], [128]⟩, ⟨[115, 104, 97, 51, 56, 52], 1, 0, [], [192]⟩, ⟨[114, 115, 97], 2, 1, [], []⟩, ⟨[100, 115, 97], 2, 1, [], []⟩, ⟨[101, 99, 100, 115, 97], 2, 2, [], []⟩, ⟨[101, 100, 50, 53, 53, 49, 57], 2, 0, [], [128]⟩, ⟨[109, 108, 100, 115, 97], 2, 3, [44, 65, 87], [128, 192, 256]⟩, ⟨[114, 115, 97, 107, 120], 3, 1, [], []⟩, ⟨[100, 104, 101], 3, 1, [], []⟩, ⟨[101, 99, 100, 104, 101], 3, 2, [], []⟩, ⟨[109, 108, 107, 101, 109], 3, 3, [512, 768, 1024], [128, 192, 256]⟩, ⟨[114, 99, 52], 4, 3, [40, 128], [40, 60]⟩, ⟨[100, 101, 115, 51], 4, 3, [112, 168], [80, 112]⟩, ⟨[97, 101, 115, 99, 98, 99], 4, 3, [128, 256], [128, 256]⟩, ⟨[97, 101, 115, 103, 99, 109], 4, 3, [128, 256], [128, 256]⟩, ⟨[99, 104, 97, 99, 104, 97], 4, 0, [], [256]⟩, ⟨[104, 109, 97, 99, 109, 100, 53], 5, 0, [], [64]⟩, ⟨[104, 109, 97, 99, 115, 104, 97, 49], 5, 0, [], [80]⟩, ⟨[104, 109, 97, 99, 115, 104, 97, 50, 53, 54], 5, 0, [], [128]⟩, ⟨[97, 101, 97, 100], 5, 0, [], [256]⟩]
def catZero : CatRow := ⟨[], 0, 0, [], []⟩
def catOf (alg : Int) : CatRow := if 1 ≤ alg ∧ alg ≤ 22 then (catTable[alg.toNat]?).getD catZero else catZero
theorem catTable_at {alg : Int} (h : 1 ≤ alg ∧ alg ≤ 22) : catTable[alg.toNat]? = some (catOf alg) := by
  have hl : alg.toNat < catTable.length := by show alg.toNat < 23; omega
  unfold catOf; rw [if_pos h, List.getElem?_eq_getElem hl]; rfl
theorem flat_row {β : Type} {f : β → List Pr} {sz : Nat} (hf : ∀ x, (f x).length = sz) : ∀ {l : List β} {i : Nat} {x : β}, l[i]? = some x → ((l.flatMap f).drop (i * sz)).take sz = f x
  | [], _, _, h => by simp at h
  | a :: l, 0, x, h => by
    simp at h; subst h
    rw [List.flatMap_cons, Nat.zero_mul, List.drop_zero, List.take_append_of_le_length (by rw [hf]; exact Nat.le_refl _), List.take_of_length_le (by rw [hf]; exact Nat.le_refl _)]
  | a :: l, i + 1, x, h => by
    rw [List.flatMap_cons, Nat.succ_mul, Nat.add_comm, ← List.drop_drop, List.drop_left' (hf a)]
    exact flat_row hf (by simpa using h)
theorem drop_cons {β : Type} {l : List β} {k : Nat} {x : β} (h : l[k]? = some x) : l.drop k = x :: l.drop (k + 1) := by
  have hk : k < l.length := by rcases Nat.lt_or_ge k l.length with h' | h'; exact h'; rw [List.getElem?_eq_none h'] at h; cases h
  rw [List.drop_eq_getElem_cons hk]
  rw [List.getElem?_eq_getElem hk] at h
  simp at h; rw [h]
def mods : List (Int × Int) := [(1024, 56), (2048, 80), (3072, 112), (7680, 128), (15360, 192)]
def modF : List (Int × Int) → Int → Int
  | [], _ => 256
  | p :: l, b => if b < p.1 then p.2 else modF l b
def modI (b : Int) : Int := modF mods b

theorem w_rows   : Fun Tryz.prog 266 [] (agg (catTable.flatMap rowC)) := by
 refine fo Tryz.func266 rfl ⟨rfl, rfl⟩ fun M0 w0 => (Tr.seq (Tr.regT ?_))
 refine TO.alloc rfl rfl (by decide) rfl z272 zo272 (fun b1 => ?_)
 refine ap ?_
 refine ap ?_
 refine tp rfl (ok_build (rows := [(0, [_]), (1, [_]), (2, [_]), (3, [_]), (4, [_])]) rfl bl244 zo244 ⟨⟨rfl, (VL.le (vl rfl) (one_cellsP _))⟩, ⟨⟨rfl, (VL.le (vl rfl) (one_cellsP _))⟩, ⟨⟨rfl, (VL.le (vl rfl) (one_cellsP _))⟩, ⟨⟨rfl, ⟨_, rfl, Pr.le_trans (nil_slice 1) (one_cellsP _)⟩⟩, ⟨⟨rfl, ⟨_, rfl, Pr.le_trans (full_le _ _) (one_cellsP _)⟩⟩, trivial⟩⟩⟩⟩⟩ rfl) (tp rfl (ok_buildSlice (xs := [.const (.int .i64 (60))]) (rows := [[_]]) rfl rfl Tryz.underlying22 sz3 z3 rfl (by decide) ⟨⟨(by exact rfl), (VL.le (vl rfl) (one_cellsP _))⟩, trivial⟩ (by decide)) ?_)
 refine tp rfl (ok_build (rows := [(0, [_]), (1, [_]), (2, [_]), (3, [_]), (4, [_])]) rfl bl244 zo244 ⟨⟨rfl, (VL.le (vl rfl) (one_cellsP _))⟩, ⟨⟨rfl, (VL.le (vl rfl) (one_cellsP _))⟩, ⟨⟨rfl, (VL.le (vl rfl) (one_cellsP _))⟩, ⟨⟨rfl, ⟨_, rfl, Pr.le_trans (nil_slice 1) (one_cellsP _)⟩⟩, ⟨⟨rfl, ⟨_, rfl, Pr.le_trans (full_le _ _) (one_cellsP _)⟩⟩, trivial⟩⟩⟩⟩⟩ rfl) (tp rfl (ok_buildSlice (xs := [.const (.int .i64 (128))]) (rows := [[_]]) rfl rfl Tryz.underlying22 sz3 z3 rfl (by decide) ⟨⟨(by exact rfl), (VL.le (vl rfl) (one_cellsP _))⟩, trivial⟩ (by decide)) ?_)
 refine tp rfl (ok_build (rows := [(0, [_]), (1, [_]), (2, [_]), (3, [_]), (4, [_])]) rfl bl244 zo244 ⟨⟨rfl, (VL.le (vl rfl) (one_cellsP _))⟩, ⟨⟨rfl, (VL.le (vl rfl) (one_cellsP _))⟩, ⟨⟨rfl, (VL.le (vl rfl) (one_cellsP _))⟩, ⟨⟨rfl, ⟨_, rfl, Pr.le_trans (nil_slice 1) (one_cellsP _)⟩⟩, ⟨⟨rfl, ⟨_, rfl, Pr.le_trans (full_le _ _) (one_cellsP _)⟩⟩, trivial⟩⟩⟩⟩⟩ rfl) (tp rfl (ok_buildSlice (xs := [.const (.int .i64 (192))]) (rows := [[_]]) rfl rfl Tryz.underlying22 sz3 z3 rfl (by decide) ⟨⟨(by exact rfl), (VL.le (vl rfl) (one_cellsP _))⟩, trivial⟩ (by decide)) ?_)
 refine tp rfl (ok_build (rows := [(0, [_]), (1, [_]), (2, [_]), (3, [_]), (4, [_])]) rfl bl244 zo244 ⟨⟨rfl, (VL.le (vl rfl) (one_cellsP _))⟩, ⟨⟨rfl, (VL.le (vl rfl) (one_cellsP _))⟩, ⟨⟨rfl, (VL.le (vl rfl) (one_cellsP _))⟩, ⟨⟨rfl, ⟨_, rfl, Pr.le_trans (nil_slice 1) (one_cellsP _)⟩⟩, ⟨⟨rfl, ⟨_, rfl, Pr.le_trans (full_le _ _) (one_cellsP _)⟩⟩, trivial⟩⟩⟩⟩⟩ rfl) (tp rfl (ok_build (rows := [(0, [_]), (1, [_]), (2, [_]), (3, [_]), (4, [_])]) rfl bl244 zo244 ⟨⟨rfl, (VL.le (vl rfl) (one_cellsP _))⟩, ⟨⟨rfl, (VL.le (vl rfl) (one_cellsP _))⟩, ⟨⟨rfl, (VL.le (vl rfl) (one_cellsP _))⟩, ⟨⟨rfl, ⟨_, rfl, Pr.le_trans (nil_slice 1) (one_cellsP _)⟩⟩, ⟨⟨rfl, ⟨_, rfl, Pr.le_trans (nil_slice 1) (one_cellsP _)⟩⟩, trivial⟩⟩⟩⟩⟩ rfl) (tp rfl (ok_build (rows := [(0, [_]), (1, [_]), (2, [_]), (3, [_]), (4, [_])]) rfl bl244 zo244 ⟨⟨rfl, (VL.le (vl rfl) (one_cellsP _))⟩, ⟨⟨rfl, (VL.le (vl rfl) (one_cellsP _))⟩, ⟨⟨rfl, (VL.le (vl rfl) (one_cellsP _))⟩, ⟨⟨rfl, ⟨_, rfl, Pr.le_trans (nil_slice 1) (one_cellsP _)⟩⟩, ⟨⟨rfl, ⟨_, rfl, Pr.le_trans (nil_slice 1) (one_cellsP _)⟩⟩, trivial⟩⟩⟩⟩⟩ rfl) (tp rfl (ok_build (rows := [(0, [_]), (1, [_]), (2, [_]), (3, [_]), (4, [_])]) rfl bl244 zo244 ⟨⟨rfl, (VL.le (vl rfl) (one_cellsP _))⟩, ⟨⟨rfl, (VL.le (vl rfl) (one_cellsP _))⟩, ⟨⟨rfl, (VL.le (vl rfl) (one_cellsP _))⟩, ⟨⟨rfl, ⟨_, rfl, Pr.le_trans (nil_slice 1) (one_cellsP _)⟩⟩, ⟨⟨rfl, ⟨_, rfl, Pr.le_trans (nil_slice 1) (one_cellsP _)⟩⟩, trivial⟩⟩⟩⟩⟩ rfl) (tp rfl (ok_buildSlice (xs := [.const (.int .i64 (128))]) (rows := [[_]]) rfl rfl Tryz.underlying22 sz3 z3 rfl (by decide) ⟨⟨(by exact rfl), (VL.le (vl rfl) (one_cellsP _))⟩, trivial⟩ (by decide)) ?_))))
 refine tp rfl (ok_build (rows := [(0, [_]), (1, [_]), (2, [_]), (3, [_]), (4, [_])]) rfl bl244 zo244 ⟨⟨rfl, (VL.le (vl rfl) (one_cellsP _))⟩, ⟨⟨rfl, (VL.le (vl rfl) (one_cellsP _))⟩, ⟨⟨rfl, (VL.le (vl rfl) (one_cellsP _))⟩, ⟨⟨rfl, ⟨_, rfl, Pr.le_trans (nil_slice 1) (one_cellsP _)⟩⟩, ⟨⟨rfl, ⟨_, rfl, Pr.le_trans (full_le _ _) (one_cellsP _)⟩⟩, trivial⟩⟩⟩⟩⟩ rfl) ?_
 refine ap ?_
 refine tp rfl (ok_build (rows := [(0, [_]), (1, [_]), (2, [_]), (3, [_]), (4, [_])]) rfl bl244 zo244 ⟨⟨rfl, (VL.le (vl rfl) (one_cellsP _))⟩, ⟨⟨rfl, (VL.le (vl rfl) (one_cellsP _))⟩, ⟨⟨rfl, (VL.le (vl rfl) (one_cellsP _))⟩, ⟨⟨rfl, ⟨_, rfl, Pr.le_trans (full_le _ _) (one_cellsP _)⟩⟩, ⟨⟨rfl, ⟨_, rfl, Pr.le_trans (full_le _ _) (one_cellsP _)⟩⟩, trivial⟩⟩⟩⟩⟩ rfl) (tp rfl (ok_build (rows := [(0, [_]), (1, [_]), (2, [_]), (3, [_]), (4, [_])]) rfl bl244 zo244 ⟨⟨rfl, (VL.le (vl rfl) (one_cellsP _))⟩, ⟨⟨rfl, (VL.le (vl rfl) (one_cellsP _))⟩, ⟨⟨rfl, (VL.le (vl rfl) (one_cellsP _))⟩, ⟨⟨rfl, ⟨_, rfl, Pr.le_trans (nil_slice 1) (one_cellsP _)⟩⟩, ⟨⟨rfl, ⟨_, rfl, Pr.le_trans (nil_slice 1) (one_cellsP _)⟩⟩, trivial⟩⟩⟩⟩⟩ rfl) (tp rfl (ok_build (rows := [(0, [_]), (1, [_]), (2, [_]), (3, [_]), (4, [_])]) rfl bl244 zo244 ⟨⟨rfl, (VL.le (vl rfl) (one_cellsP _))⟩, ⟨⟨rfl, (VL.le (vl rfl) (one_cellsP _))⟩, ⟨⟨rfl, (VL.le (vl rfl) (one_cellsP _))⟩, ⟨⟨rfl, ⟨_, rfl, Pr.le_trans (nil_slice 1) (one_cellsP _)⟩⟩, ⟨⟨rfl, ⟨_, rfl, Pr.le_trans (nil_slice 1) (one_cellsP _)⟩⟩, trivial⟩⟩⟩⟩⟩ rfl) (tp rfl (ok_build (rows := [(0, [_]), (1, [_]), (2, [_]), (3, [_]), (4, [_])]) rfl bl244 zo244 ⟨⟨rfl, (VL.le (vl rfl) (one_cellsP _))⟩, ⟨⟨rfl, (VL.le (vl rfl) (one_cellsP _))⟩, ⟨⟨rfl, (VL.le (vl rfl) (one_cellsP _))⟩, ⟨⟨rfl, ⟨_, rfl, Pr.le_trans (nil_slice 1) (one_cellsP _)⟩⟩, ⟨⟨rfl, ⟨_, rfl, Pr.le_trans (nil_slice 1) (one_cellsP _)⟩⟩, trivial⟩⟩⟩⟩⟩ rfl) ?_)))
 refine ap ?_
 refine tp rfl (ok_build (rows := [(0, [_]), (1, [_]), (2, [_]), (3, [_]), (4, [_])]) rfl bl244 zo244 ⟨⟨rfl, (VL.le (vl rfl) (one_cellsP _))⟩, ⟨⟨rfl, (VL.le (vl rfl) (one_cellsP _))⟩, ⟨⟨rfl, (VL.le (vl rfl) (one_cellsP _))⟩, ⟨⟨rfl, ⟨_, rfl, Pr.le_trans (full_le _ _) (one_cellsP _)⟩⟩, ⟨⟨rfl, ⟨_, rfl, Pr.le_trans (full_le _ _) (one_cellsP _)⟩⟩, trivial⟩⟩⟩⟩⟩ rfl) ?_
 refine ap ?_
 refine tp rfl (ok_build (rows := [(0, [_]), (1, [_]), (2, [_]), (3, [_]), (4, [_])]) rfl bl244 zo244 ⟨⟨rfl, (VL.le (vl rfl) (one_cellsP _))⟩, ⟨⟨rfl, (VL.le (vl rfl) (one_cellsP _))⟩, ⟨⟨rfl, (VL.le (vl rfl) (one_cellsP _))⟩, ⟨⟨rfl, ⟨_, rfl, Pr.le_trans (full_le _ _) (one_cellsP _)⟩⟩, ⟨⟨rfl, ⟨_, rfl, Pr.le_trans (full_le _ _) (one_cellsP _)⟩⟩, trivial⟩⟩⟩⟩⟩ rfl) ?_
 refine ap ?_
 refine tp rfl (ok_build (rows := [(0, [_]), (1, [_]), (2, [_]), (3, [_]), (4, [_])]) rfl bl244 zo244 ⟨⟨rfl, (VL.le (vl rfl) (one_cellsP _))⟩, ⟨⟨rfl, (VL.le (vl rfl) (one_cellsP _))⟩, ⟨⟨rfl, (VL.le (vl rfl) (one_cellsP _))⟩, ⟨⟨rfl, ⟨_, rfl, Pr.le_trans (full_le _ _) (one_cellsP _)⟩⟩, ⟨⟨rfl, ⟨_, rfl, Pr.le_trans (full_le _ _) (one_cellsP _)⟩⟩, trivial⟩⟩⟩⟩⟩ rfl) ?_
 refine ap ?_
 refine tp rfl (ok_build (rows := [(0, [_]), (1, [_]), (2, [_]), (3, [_]), (4, [_])]) rfl bl244 zo244 ⟨⟨rfl, (VL.le (vl rfl) (one_cellsP _))⟩, ⟨⟨rfl, (VL.le (vl rfl) (one_cellsP _))⟩, ⟨⟨rfl, (VL.le (vl rfl) (one_cellsP _))⟩, ⟨⟨rfl, ⟨_, rfl, Pr.le_trans (full_le _ _) (one_cellsP _)⟩⟩, ⟨⟨rfl, ⟨_, rfl, Pr.le_trans (full_le _ _) (one_cellsP _)⟩⟩, trivial⟩⟩⟩⟩⟩ rfl) ?_
 refine ap ?_
 refine tp rfl (ok_build (rows := [(0, [_]), (1, [_]), (2, [_]), (3, [_]), (4, [_])]) rfl bl244 zo244 ⟨⟨rfl, (VL.le (vl rfl) (one_cellsP _))⟩, ⟨⟨rfl, (VL.le (vl rfl) (one_cellsP _))⟩, ⟨⟨rfl, (VL.le (vl rfl) (one_cellsP _))⟩, ⟨⟨rfl, ⟨_, rfl, Pr.le_trans (full_le _ _) (one_cellsP _)⟩⟩, ⟨⟨rfl, ⟨_, rfl, Pr.le_trans (full_le _ _) (one_cellsP _)⟩⟩, trivial⟩⟩⟩⟩⟩ rfl) (tp rfl (ok_buildSlice (xs := [.const (.int .i64 (256))]) (rows := [[_]]) rfl rfl Tryz.underlying22 sz3 z3 rfl (by decide) ⟨⟨(by exact rfl), (VL.le (vl rfl) (one_cellsP _))⟩, trivial⟩ (by decide)) ?_)
 refine tp rfl (ok_build (rows := [(0, [_]), (1, [_]), (2, [_]), (3, [_]), (4, [_])]) rfl bl244 zo244 ⟨⟨rfl, (VL.le (vl rfl) (one_cellsP _))⟩, ⟨⟨rfl, (VL.le (vl rfl) (one_cellsP _))⟩, ⟨⟨rfl, (VL.le (vl rfl) (one_cellsP _))⟩, ⟨⟨rfl, ⟨_, rfl, Pr.le_trans (nil_slice 1) (one_cellsP _)⟩⟩, ⟨⟨rfl, ⟨_, rfl, Pr.le_trans (full_le _ _) (one_cellsP _)⟩⟩, trivial⟩⟩⟩⟩⟩ rfl) (tp rfl (ok_buildSlice (xs := [.const (.int .i64 (64))]) (rows := [[_]]) rfl rfl Tryz.underlying22 sz3 z3 rfl (by decide) ⟨⟨(by exact rfl), (VL.le (vl rfl) (one_cellsP _))⟩, trivial⟩ (by decide)) ?_)
 refine tp rfl (ok_build (rows := [(0, [_]), (1, [_]), (2, [_]), (3, [_]), (4, [_])]) rfl bl244 zo244 ⟨⟨rfl, (VL.le (vl rfl) (one_cellsP _))⟩, ⟨⟨rfl, (VL.le (vl rfl) (one_cellsP _))⟩, ⟨⟨rfl, (VL.le (vl rfl) (one_cellsP _))⟩, ⟨⟨rfl, ⟨_, rfl, Pr.le_trans (nil_slice 1) (one_cellsP _)⟩⟩, ⟨⟨rfl, ⟨_, rfl, Pr.le_trans (full_le _ _) (one_cellsP _)⟩⟩, trivial⟩⟩⟩⟩⟩ rfl) (tp rfl (ok_buildSlice (xs := [.const (.int .i64 (80))]) (rows := [[_]]) rfl rfl Tryz.underlying22 sz3 z3 rfl (by decide) ⟨⟨(by exact rfl), (VL.le (vl rfl) (one_cellsP _))⟩, trivial⟩ (by decide)) ?_)
 refine tp rfl (ok_build (rows := [(0, [_]), (1, [_]), (2, [_]), (3, [_]), (4, [_])]) rfl bl244 zo244 ⟨⟨rfl, (VL.le (vl rfl) (one_cellsP _))⟩, ⟨⟨rfl, (VL.le (vl rfl) (one_cellsP _))⟩, ⟨⟨rfl, (VL.le (vl rfl) (one_cellsP _))⟩, ⟨⟨rfl, ⟨_, rfl, Pr.le_trans (nil_slice 1) (one_cellsP _)⟩⟩, ⟨⟨rfl, ⟨_, rfl, Pr.le_trans (full_le _ _) (one_cellsP _)⟩⟩, trivial⟩⟩⟩⟩⟩ rfl) (tp rfl (ok_buildSlice (xs := [.const (.int .i64 (128))]) (rows := [[_]]) rfl rfl Tryz.underlying22 sz3 z3 rfl (by decide) ⟨⟨(by exact rfl), (VL.le (vl rfl) (one_cellsP _))⟩, trivial⟩ (by decide)) ?_)
 refine tp rfl (ok_build (rows := [(0, [_]), (1, [_]), (2, [_]), (3, [_]), (4, [_])]) rfl bl244 zo244 ⟨⟨rfl, (VL.le (vl rfl) (one_cellsP _))⟩, ⟨⟨rfl, (VL.le (vl rfl) (one_cellsP _))⟩, ⟨⟨rfl, (VL.le (vl rfl) (one_cellsP _))⟩, ⟨⟨rfl, ⟨_, rfl, Pr.le_trans (nil_slice 1) (one_cellsP _)⟩⟩, ⟨⟨rfl, ⟨_, rfl, Pr.le_trans (full_le _ _) (one_cellsP _)⟩⟩, trivial⟩⟩⟩⟩⟩ rfl) (tp rfl (ok_buildSlice (xs := [.const (.int .i64 (256))]) (rows := [[_]]) rfl rfl Tryz.underlying22 sz3 z3 rfl (by decide) ⟨⟨(by exact rfl), (VL.le (vl rfl) (one_cellsP _))⟩, trivial⟩ (by decide)) ?_)
 refine tp rfl (ok_build (rows := [(0, [_]), (1, [_]), (2, [_]), (3, [_]), (4, [_])]) rfl bl244 zo244 ⟨⟨rfl, (VL.le (vl rfl) (one_cellsP _))⟩, ⟨⟨rfl, (VL.le (vl rfl) (one_cellsP _))⟩, ⟨⟨rfl, (VL.le (vl rfl) (one_cellsP _))⟩, ⟨⟨rfl, ⟨_, rfl, Pr.le_trans (nil_slice 1) (one_cellsP _)⟩⟩, ⟨⟨rfl, ⟨_, rfl, Pr.le_trans (full_le _ _) (one_cellsP _)⟩⟩, trivial⟩⟩⟩⟩⟩ rfl) ?_
 refine ap ?_
 refine wk1 0 rfl (Tr.ret (Fin.retX1 rfl (RVal.cell 0 rfl rfl agg272 sz272 rfl (Pr.le_refl _)) ?_))
 · exact agg_le ⟨Pr.le_refl _, Pr.le_refl _, Pr.le_refl _, nil_slice 1, nil_slice 1, Pr.le_refl _, Pr.le_refl _, Pr.le_refl _, Pr.le_refl _, Pr.le_refl _, Pr.le_refl _, Pr.le_refl _, Pr.le_refl _, Pr.le_refl _, Pr.le_refl _, Pr.le_refl _, Pr.le_refl _, Pr.le_refl _, Pr.le_refl _, Pr.le_refl _, Pr.le_refl _, Pr.le_refl _, Pr.le_refl _, Pr.le_refl _, Pr.le_refl _, Pr.le_refl _, Pr.le_refl _, Pr.le_refl _, Pr.le_refl _, Pr.le_refl _, Pr.le_refl _, Pr.le_refl _, Pr.le_refl _, Pr.le_refl _, Pr.le_refl _, Pr.le_refl _, Pr.le_refl _, Pr.le_refl _, Pr.le_refl _, Pr.le_refl _, Pr.le_refl _, Pr.le_refl _, Pr.le_refl _, Pr.le_refl _, Pr.le_refl _, Pr.le_refl _, Pr.le_refl _, Pr.le_refl _, Pr.le_refl _, Pr.le_refl _, Pr.le_refl _, Pr.le_refl _, Pr.le_refl _, Pr.le_refl _, Pr.le_refl _, Pr.le_refl _, Pr.le_refl _, Pr.le_refl _, Pr.le_refl _, Pr.le_refl _, Pr.le_refl _, Pr.le_refl _, Pr.le_refl _, Pr.le_refl _, Pr.le_refl _, Pr.le_refl _, Pr.le_refl _, Pr.le_refl _, Pr.le_refl _, Pr.le_refl _, Pr.le_refl _, Pr.le_refl _, Pr.le_refl _, Pr.le_refl _, Pr.le_refl _, Pr.le_refl _, Pr.le_refl _, Pr.le_refl _, Pr.le_refl _, Pr.le_refl _, Pr.le_refl _, Pr.le_refl _, Pr.le_refl _, Pr.le_refl _, Pr.le_refl _, Pr.le_refl _, Pr.le_refl _, Pr.le_refl _, Pr.le_refl _, Pr.le_refl _, Pr.le_refl _, Pr.le_refl _, Pr.le_refl _, Pr.le_refl _, Pr.le_refl _, Pr.le_refl _, Pr.le_refl _, Pr.le_refl _, Pr.le_refl _, Pr.le_refl _, Pr.le_refl _, Pr.le_refl _, Pr.le_refl _, Pr.le_refl _, Pr.le_refl _, Pr.le_refl _, Pr.le_refl _, Pr.le_refl _, Pr.le_refl _, Pr.le_refl _, Pr.le_refl _, Pr.le_refl _, Pr.le_refl _, Pr.le_refl _, Pr.le_refl _, trivial⟩
theorem w_of {alg : Int}  : Fun Tryz.prog 224 [int alg] (tup [agg (rowC (catOf alg)), bool (decide (1 ≤ alg ∧ alg ≤ 22))]) := by
 refine fo Tryz.func224 rfl ⟨rfl, rfl⟩ fun M0 w0 => (Tr.seq (Tr.regT ?_))
 refine TO.alloc rfl rfl (by decide) rfl z244 zo244 (fun b1 => ?_)
 refine ap ?_
 refine ac ?_
 refine Ch.cs 6 rfl ?_ ?_ <;> intro h1 q1
 refine ac ?_
 refine Tr.cond rfl (fun _ => ?_) (fun h => nomatch h)
 refine Tr.seq (Tr.regT (tp rfl (ok_build (rows := []) rfl bl244 zo244 trivial rfl) (TO.store_all 0 rfl rfl rfl (vl rfl) (VL.le (vl rfl) (agg_cellsP _)) rfl sz244 rfl rfl (tm rfl (TO.nil (Fin.go (Tr.ret (Fin.then_ret (Fin.retX2 rfl (RVal.cell 0 rfl rfl agg244 sz244 rfl (Pr.le_refl _)) (RVal.tmp rfl (Pr.le_refl _)) ?_)))))))))
 · refine tup_le ⟨?_, bool_eq (by symm; rw [decide_eq_false_iff_not]; omega), trivial⟩; unfold catOf; rw [if_neg (by omega)]; exact agg_le ⟨Pr.le_refl _, Pr.le_refl _, Pr.le_refl _, nil_slice 1, nil_slice 1, trivial⟩
 refine ac ?_
 refine Tr.cn rfl ?_ ?_ <;> intro h2 q2
 refine ap ?_
 refine Tr.ret (Fin.then_ret (Fin.retX2 rfl (RVal.cell 0 rfl rfl agg244 sz244 rfl (Pr.le_refl _)) (RVal.tmp rfl (Pr.le_refl _)) ?_))
 · refine tup_le ⟨?_, bool_eq (by symm; rw [decide_eq_false_iff_not]; omega), trivial⟩; unfold catOf; rw [if_neg (by omega)]; exact agg_le ⟨Pr.le_refl _, Pr.le_refl _, Pr.le_refl _, nil_slice 1, nil_slice 1, trivial⟩
 have hin : 1 ≤ alg ∧ alg ≤ 22 := by omega
 refine ac ?_
 refine Tr.seq (Tr.regT (tp rfl (kc0 (w_rows) rfl) (tm rfl (tp rfl (ok_index rfl Tryz.underlying272 agg244 sz244 (vl rfl) (vl rfl) (by omega) (by omega) (flat_row (f := rowC) (fun _ => rfl) (catTable_at hin))) ?_))))
 refine ap ?_
 refine Tr.ret (Fin.retX2 rfl (RVal.cell 0 rfl rfl agg244 sz244 rfl (Pr.le_refl _)) (RVal.tmp rfl (Pr.le_refl _)) ?_)
 · exact tup_le ⟨Pr.le_refl _, bool_eq (by symm; rw [decide_eq_true_eq]; exact hin), trivial⟩
theorem w_Kind {alg : Int}  : Fun Tryz.prog 191 [int alg] (int (catOf alg).kind) := by
 refine fo Tryz.func191 rfl ⟨rfl, rfl⟩ fun M0 w0 => ?_
 refine ac ?_
 refine ao ?_
 refine tp rfl (kc1 (w_of) rfl rfl) ?_
 refine ao ?_
 refine TO.alloc rfl rfl (by decide) rfl z244 zo244 (fun b1 => ?_)
 refine sf 0 3 ⟨rfl, rfl, rfl⟩ rfl rfl rfl rfl ?_
 refine ao ?_
 refine ac ?_
 refine ac ?_
 · exact Pr.le_refl _
theorem w_modulus {b : Int}  : Fun Tryz.prog 263 [int b] (int (modI b)) := by
 refine fo Tryz.func263 rfl ⟨rfl, rfl⟩ fun M0 w0 => ?_
 have hml : mods.length = 5 := rfl
 refine ac ?_
 refine ac ?_
 refine Tr.block (Tr.re 10 rfl (Pr.le_of_eq (show _ = agg (mods.flatMap fun p => [int p.1, int p.2]) from rfl)) (Tr.loopw [(0, _), (10, _)] (kk2 rfl) (fun k : Nat => [(11, int ((k : Nat) : Int))]) (fun k : Nat => k ≤ (mods).length ∧ (modI b = modF (mods.drop k) b)) (fun k : Nat => (mods).length - k) 0 (⟨Nat.zero_le _, rfl⟩) ⟨ke rfl, trivial⟩ ?_))
 rintro k ⟨hle_k, hinv_k⟩
 refine ac ?_
 refine Tr.seq ?_
 refine Tr.cn rfl ?_ ?_ <;> intro h1 q1
 have hk_k : k < (mods).length := lt_of_dec h1
 obtain ⟨p, hx_k⟩ := at_ hk_k
 have hL : k < 5 := hk_k
 have hdr := drop_cons hx_k
 refine ac ?_
 refine Tr.seq (Tr.block (Tr.seq (Tr.regT (tp rfl (ok_index rfl Tryz.underlying293 agg292 sz292 (vl rfl) (vl rfl) (by omega) (by omega) (flat_row (f := fun p : Int × Int => [int p.1, int p.2]) (fun _ => rfl) hx_k)) ?_))))
 refine TO.alloc rfl rfl (by decide) rfl z292 zo292 (fun b1 => ?_)
 refine sf 0 4 ⟨rfl, rfl, rfl⟩ rfl rfl rfl rfl ?_
 refine ao ?_
 refine ac ?_
 refine co rfl (ok_indexArr rfl Tryz.underlying292 sz3 (vl rfl) (vl rfl) (by omega) (by omega) rfl) (co rfl (ok_load_hd rfl one3 (vl rfl) rfl) ?_)
 refine ac ?_
 refine Tr.cn rfl ?_ ?_ <;> intro h2 q2
 refine Tr.seq (Tr.reg0 (co rfl (ok_indexArr rfl Tryz.underlying292 sz3 (vl rfl) (vl rfl) (by omega) (by omega) rfl) (co rfl (ok_load_hd rfl one3 (vl rfl) rfl) ?_)))
 refine ac ?_
 refine wk1 2 rfl ?_
 refine ac ?_
 · refine int_eq ?_; rw [hinv_k, hdr]; exact (if_pos (by omega)).symm
 refine ac ?_
 refine ac ?_
 exact Fin.fam_same (k + 1) ⟨⟨hk_k, (by rw [hinv_k, hdr]; exact if_neg (by omega))⟩, by omega⟩ ⟨⟨_, rfl, int_succ k⟩, ke rfl, ke rfl, trivial⟩
 have he_k : k = (mods).length := by have := ge_of_dec h1; omega
 subst he_k
 refine ac ?_
 refine ac ?_
 refine ac ?_
 · refine int_eq ?_; rw [hinv_k, List.drop_length]; rfl
end Go.Proofs.YtppeeogffbpcbaaGreat
namespace Go.Proofs.YtppeeogffbpcbaaGreat
open Go Go.RowKit Cp

def curvs : List Int := [160, 224, 256, 384, 521]
def strength (alg bits : Int) : Int :=
  if 1 ≤ alg ∧ alg ≤ 22 then
    if (catOf alg).way = 0 then (if bits = 0 then ((catOf alg).strengths[0]?).getD 0 else 0)
    else if (catOf alg).way = 1 then (if 512 ≤ bits ∧ bits ≤ 16384 then modI bits else 0)
    else if (catOf alg).way = 2 then (if (curvs.any fun x => bits == x) = true then bits.tdiv 2 else 0)
    else if (catOf alg).way = 3 then (if 0 ≤ idx (fun x => bits == x) (catOf alg).sizes then ((catOf alg).strengths[(idx (fun x => bits == x) (catOf alg).sizes).toNat]?).getD 0 else 0)
    else 0
  else 0
theorem catOf_tail {alg : Int} (h : 1 ≤ alg ∧ alg ≤ 22) : catOf alg ∈ catTable.tail := by
  have h1 := catTable_at h
  refine List.mem_of_getElem? (i := alg.toNat - 1) ?_
  rw [List.getElem?_tail, show alg.toNat - 1 + 1 = alg.toNat by omega]; exact h1
theorem cat_ok : ∀ r ∈ catTable.tail, (r.way = 0 → 1 ≤ r.strengths.length) ∧ (r.way = 3 → r.sizes.length ≤ r.strengths.length) := by decide
theorem idx_lt {β : Type} (p : β → Bool) (l : List β) : idx p l < l.length := by
  unfold idx
  cases h : l.findIdx? p with
  | none => simp; omega
  | some i => rw [List.findIdx?_eq_some_iff_getElem] at h; obtain ⟨h1, _⟩ := h; simp; omega

theorem w_Strength {alg bits : Int}  : Fun Tryz.prog 221 [agg [int alg, int bits]] (int (strength alg bits)) := by
 refine fo Tryz.func221 rfl ⟨rfl, rfl⟩ fun M0 w0 => ?_
 refine ac ?_
 refine ao ?_
 refine tp rfl (kc1 (w_of) rfl rfl) ?_
 refine ao ?_
 refine TO.alloc rfl rfl (by decide) rfl z244 zo244 (fun b1 => ?_)
 refine sf 0 3 ⟨rfl, rfl, rfl⟩ rfl rfl rfl rfl ?_
 refine ao ?_
 refine ac ?_
 refine wk3 1 3 13 rfl ?_
 refine Tr.cn rfl ?_ ?_ <;> intro h1 q1
 refine ac ?_
 refine ac ?_
 · refine int_eq ?_; unfold strength; rw [if_neg (by intro hh; simp [hh] at h1)]
 have hin : 1 ≤ alg ∧ alg ≤ 22 := by simpa using h1
 obtain ⟨hc0, hc3⟩ := cat_ok _ (catOf_tail hin)
 refine ac ?_
 refine ac ?_
 refine ac ?_
 refine Tr.cn rfl ?_ ?_ <;> intro h2 q2
 refine ac ?_
 refine Tr.cn rfl ?_ ?_ <;> intro h3 q3
 obtain ⟨z, hz⟩ := at_ (l := (catOf alg).strengths) (k := 0) (hc0 (by omega))
 refine ac ?_
 refine co rfl (ok_indexAddr rfl Tryz.underlying22 sz3 (vl rfl) (vl rfl) (by omega) (row_at (k := 0) hz)) ?_
 refine ac ?_
 refine wk1 2 rfl ?_
 refine ac ?_
 · refine int_eq ?_; unfold strength; rw [if_pos hin, if_pos (by omega), if_pos (by omega), hz]; rfl
 refine ac ?_
 refine ac ?_
 refine ac ?_
 · refine int_eq ?_; unfold strength; rw [if_pos hin, if_pos (by omega), if_neg (by omega)]
 refine ac ?_
 refine Tr.cn rfl ?_ ?_ <;> intro h4 q4
 refine ac ?_
 refine Ch.cs 30 rfl ?_ ?_ <;> intro h5 q5
 refine ac ?_
 refine wk2 1 34 rfl ?_
 refine Tr.cn rfl ?_ ?_ <;> intro h6 q6
 refine ac ?_
 refine co rfl (kc1 (w_modulus) rfl rfl) ?_
 refine ac ?_
 refine ac ?_
 · refine int_eq ?_; unfold strength; rw [if_pos hin, if_neg (by omega), if_pos (by omega), if_pos (by omega)]
 refine ac ?_
 refine ac ?_
 refine ac ?_
 · refine int_eq ?_; unfold strength; rw [if_pos hin, if_neg (by omega), if_pos (by omega), if_neg (by omega)]
 refine ac ?_
 refine wk2 1 34 rfl ?_
 refine ac ?_
 refine ac ?_
 refine ac ?_
 · refine int_eq ?_; unfold strength; rw [if_pos hin, if_neg (by omega), if_pos (by omega), if_neg (by omega)]
 refine ac ?_
 refine Tr.cn rfl ?_ ?_ <;> intro h7 q7
 refine ac ?_
 refine co rfl (ok_call rfl (w_ContainsI (l := curvs)) ⟨⟨_, rfl, full_le _ _⟩, ke rfl, trivial⟩) ?_
 refine ac ?_
 refine wk2 1 43 rfl ?_
 refine Tr.cn rfl ?_ ?_ <;> intro h8 q8
 have hb : bits = 160 ∨ bits = 224 ∨ bits = 256 ∨ bits = 384 ∨ bits = 521 := by simpa [curvs] using h8
 refine ac ?_
 refine co rfl (ok_quo rfl (vl rfl) (vl rfl) (by omega)) ?_
 refine ac ?_
 refine ac ?_
 · refine int_eq ?_; unfold strength; rw [if_pos hin, if_neg (by omega), if_neg (by omega), if_pos (by omega), if_pos (by assumption)]; rcases hb with h | h | h | h | h <;> rw [h] <;> rfl
 refine ac ?_
 refine ac ?_
 refine ac ?_
 · refine int_eq ?_; unfold strength; rw [if_pos hin, if_neg (by omega), if_neg (by omega), if_pos (by omega), if_neg (ne_true (by assumption))]
 refine ac ?_
 refine Tr.cn rfl ?_ ?_ <;> intro h9 q9
 refine ac ?_
 refine co rfl (kc2 (w_IndexI) rfl rfl rfl) ?_
 refine ac ?_
 refine wk2 3 5 rfl ?_
 refine ac ?_
 refine Tr.cn rfl ?_ ?_ <;> intro h10 q10
 have hlt := idx_lt (fun x => bits == x) (catOf alg).sizes
 obtain ⟨z, hz⟩ := at_ (l := (catOf alg).strengths) (k := (idx (fun x => bits == x) (catOf alg).sizes).toNat) (by have := hc3 (by omega); omega)
 refine ac ?_
 refine co rfl (ok_indexAddr rfl Tryz.underlying22 sz3 (vl rfl) (vl rfl) (by omega) (row_atI hz)) ?_
 refine ac ?_
 refine ac ?_
 · refine int_eq ?_; unfold strength; rw [if_pos hin, if_neg (by omega), if_neg (by omega), if_neg (by omega), if_pos (by omega), if_pos (by assumption), hz]; rfl
 refine ac ?_
 refine ac ?_
 refine ac ?_
 · refine int_eq ?_; unfold strength; rw [if_pos hin, if_neg (by omega), if_neg (by omega), if_neg (by omega), if_pos (by omega), if_neg (by omega)]
 refine ac ?_
 refine ac ?_
 refine wk1 2 rfl ?_
 refine ac ?_
 · refine int_eq ?_; unfold strength; rw [if_pos hin, if_neg (by omega), if_neg (by omega), if_neg (by omega), if_neg (by omega)]
theorem w_Valid {alg bits : Int}  : Fun Tryz.prog 185 [agg [int alg, int bits]] (bool (decide (strength alg bits > 0))) := by
 refine fo Tryz.func185 rfl ⟨rfl, rfl⟩ fun M0 w0 => ?_
 refine ac ?_
 refine ac ?_
 refine co rfl (kc1 (w_Strength) rfl rfl) ?_
 refine ac ?_
 refine ac ?_
 · exact Pr.le_refl _
end Go.Proofs.YtppeeogffbpcbaaGreat
namespace Go.Proofs.YtppeeogffbpcbaaGreat
open Go Go.RowKit Cp

def amongI (b : Int) (l m : List Int) : Int := if 0 ≤ idx (fun x => b == x) l then (m[(idx (fun x => b == x) l).toNat]?).getD 0 else 0
theorem among_hit {b : Int} {l m : List Int} {k : Nat} {x z : Int} (hx : l[k]? = some x) (he : x = b) (hz : m[k]? = some z) (h : ∀ j y, j < k → l[j]? = some y → (b == y) = false) : z = amongI b l m := by
  have := idx_found (p := fun x => b == x) hx (by simp [he]) h
  unfold amongI; rw [← this, if_pos (by omega), Int.toNat_natCast, hz]; rfl
theorem among_none {b : Int} {l m : List Int} (h : ∀ j y, j < l.length → l[j]? = some y → (b == y) = false) : 0 = amongI b l m := by
  have := idx_none (p := fun x => b == x) h
  unfold amongI; rw [← this, if_neg (by omega)]
def singleI (alg : Int) : Int := if alg = 1 then 18 else if alg = 2 then 60 else if alg = 3 ∨ alg = 8 ∨ alg = 21 then 128 else if alg = 4 then 192 else if alg = 18 ∨ alg = 22 then 256 else if alg = 19 then 64 else if alg = 20 then 80 else 0
def rmodI (b : Int) : Int := if b < 512 ∨ b > 16384 then 0 else if b < 1024 then 56 else if b < 2048 then 80 else if b < 3072 then 112 else if b < 7680 then 128 else if b < 15360 then 192 else 256
theorem rmodI_eq (b : Int) : rmodI b = if 512 ≤ b ∧ b ≤ 16384 then modI b else 0 := by
  have h1 : modI b = if b < 1024 then 56 else if b < 2048 then 80 else if b < 3072 then 112 else if b < 7680 then 128 else if b < 15360 then 192 else 256 := rfl
  rw [h1]; unfold rmodI
  by_cases h : 512 ≤ b ∧ b ≤ 16384
  · rw [if_pos h, if_neg (by omega)]
  · rw [if_neg h, if_pos (by omega)]

theorem w_among {b : Int} {l m : List Int} (hl : l.length ≤ m.length) : Fun Tryz.prog 256 [int b, ints l, ints m] (int (amongI b l m)) := by
 refine fo Tryz.func256 rfl ⟨rfl, rfl⟩ fun M0 w0 => (Tr.lenm 1 rfl fun hlm_1 => ?_)
 refine ac ?_
 refine ac ?_
 refine Tr.block (Tr.loopw [(0, _), (1, _), (2, _)] (kk3 rfl) (fun k : Nat => [(7, int ((k : Nat) : Int))]) (fun k : Nat => k ≤ (l).length ∧ (∀ j y, j < k → l[j]? = some y → (b == y) = false)) (fun k : Nat => (l).length - k) 0 (⟨Nat.zero_le _, fun j y hj => absurd hj (by omega)⟩) ⟨ke rfl, trivial⟩ ?_)
 rintro k ⟨hle_k, hinv_k⟩
 refine ac ?_
 refine Tr.cn rfl ?_ ?_ <;> intro h1 q1
 have hk_k : k < (l).length := lt_of_dec h1
 obtain ⟨x, hx_k⟩ := at_ hk_k
 obtain ⟨z, hz⟩ := at_ (l := m) (k := k) (by omega)
 refine ac ?_
 refine ac ?_
 refine co rfl (ok_indexAddr rfl Tryz.underlying22 sz3 (vl rfl) (vl rfl) (by omega) (by exact row_at (by assumption))) ?_
 refine ac ?_
 refine wk5 0 1 2 7 19 rfl ?_
 refine Tr.cn rfl ?_ ?_ <;> intro h2 q2
 refine ac ?_
 refine co rfl (ok_indexAddr rfl Tryz.underlying22 sz3 (vl rfl) (vl rfl) (by omega) (by exact row_at (by assumption))) ?_
 refine ac ?_
 refine ac ?_
 · exact int_eq (among_hit hx_k (by assumption) hz hinv_k)
 refine ac ?_
 refine ac ?_
 exact Fin.fam_same (k + 1) ⟨⟨hk_k, step_no (p := fun x => b == x) hx_k (by simp; omega) hinv_k⟩, by omega⟩ ⟨⟨_, rfl, int_succ k⟩, ke rfl, ke rfl, ke rfl, trivial⟩
 have he_k : k = (l).length := by have := ge_of_dec h1; omega
 subst he_k
 refine ac ?_
 refine ac ?_
 refine ac ?_
 · exact int_eq (among_none hinv_k)
theorem w_single {alg : Int}  : Fun Tryz.prog 257 [int alg] (int (singleI alg)) := by
 refine fo Tryz.func257 rfl ⟨rfl, rfl⟩ fun M0 w0 => ?_
 refine ac ?_
 refine ac ?_
 refine ac ?_
 refine Tr.cn rfl ?_ ?_ <;> intro h1 q1
 refine ac ?_
 refine ac ?_
 · refine int_eq ?_; unfold singleI; (repeat (rw [if_pos (by omega)]))
 refine ac ?_
 refine Tr.cn rfl ?_ ?_ <;> intro h2 q2
 refine ac ?_
 refine ac ?_
 · refine int_eq ?_; unfold singleI; (repeat (first | rw [if_pos (by omega)] | rw [if_neg (by omega)]))
 refine ac ?_
 refine Tr.cn rfl ?_ ?_ <;> intro h3 q3
 refine ac ?_
 refine Tr.cond rfl (fun _ => ?_) (fun h => nomatch h3.symm.trans h)
 refine ac ?_
 refine ac ?_
 · refine int_eq ?_; unfold singleI; (repeat (first | rw [if_pos (by omega)] | rw [if_neg (by omega)]))
 refine ac ?_
 refine Tr.cn rfl ?_ ?_ <;> intro h4 q4
 refine ac ?_
 refine Tr.cond rfl (fun _ => ?_) (fun h => nomatch h4.symm.trans h)
 refine ac ?_
 refine ac ?_
 · refine int_eq ?_; unfold singleI; (repeat (first | rw [if_pos (by omega)] | rw [if_neg (by omega)]))
 refine ac ?_
 refine Tr.cn rfl ?_ ?_ <;> intro h5 q5
 refine ac ?_
 refine ac ?_
 · refine int_eq ?_; unfold singleI; (repeat (first | rw [if_pos (by omega)] | rw [if_neg (by omega)]))
 refine ac ?_
 refine wk2 3 12 rfl ?_
 refine Tr.cn rfl ?_ ?_ <;> intro h6 q6
 refine ac ?_
 refine ac ?_
 · refine int_eq ?_; unfold singleI; (repeat (first | rw [if_pos (by omega)] | rw [if_neg (by omega)]))
 refine ac ?_
 refine Tr.cn rfl ?_ ?_ <;> intro h7 q7
 refine ac ?_
 refine Tr.cond rfl (fun _ => ?_) (fun h => nomatch h7.symm.trans h)
 refine ac ?_
 refine ac ?_
 · refine int_eq ?_; unfold singleI; (repeat (first | rw [if_pos (by omega)] | rw [if_neg (by omega)]))
 refine ac ?_
 refine Tr.cn rfl ?_ ?_ <;> intro h8 q8
 refine ac ?_
 refine ac ?_
 · refine int_eq ?_; unfold singleI; (repeat (first | rw [if_pos (by omega)] | rw [if_neg (by omega)]))
 refine ac ?_
 refine Tr.cn rfl ?_ ?_ <;> intro h9 q9
 refine ac ?_
 refine ac ?_
 · refine int_eq ?_; unfold singleI; (repeat (first | rw [if_pos (by omega)] | rw [if_neg (by omega)]))
 refine ac ?_
 refine Tr.cn rfl ?_ ?_ <;> intro h10 q10
 refine ac ?_
 refine ac ?_
 · refine int_eq ?_; unfold singleI; (repeat (first | rw [if_pos (by omega)] | rw [if_neg (by omega)]))
 refine ac ?_
 refine ac ?_
 refine ac ?_
 · refine int_eq ?_; unfold singleI; (repeat (rw [if_neg (by omega)]))
theorem w_Rmodulus {b : Int}  : Fun Tryz.prog 255 [int b] (int (rmodI b)) := by
 refine fo Tryz.func255 rfl ⟨rfl, rfl⟩ fun M0 w0 => ?_
 refine ac ?_
 refine ac ?_
 refine Ch.cs 6 rfl ?_ ?_ <;> intro h1 q1
 refine ac ?_
 refine ac ?_
 refine ac ?_
 · refine int_eq ?_; unfold rmodI; (repeat (rw [if_pos (by omega)]))
 refine ac ?_
 refine Tr.cn rfl ?_ ?_ <;> intro h2 q2
 refine ac ?_
 refine ac ?_
 · refine int_eq ?_; unfold rmodI; (repeat (rw [if_pos (by omega)]))
 refine ac ?_
 refine Tr.cn rfl ?_ ?_ <;> intro h3 q3
 refine ac ?_
 refine ac ?_
 · refine int_eq ?_; unfold rmodI; (repeat (first | rw [if_pos (by omega)] | rw [if_neg (by omega)]))
 refine ac ?_
 refine wk2 0 13 rfl ?_
 refine Tr.cn rfl ?_ ?_ <;> intro h4 q4
 refine ac ?_
 refine ac ?_
 · refine int_eq ?_; unfold rmodI; (repeat (first | rw [if_pos (by omega)] | rw [if_neg (by omega)]))
 refine ac ?_
 refine Tr.cn rfl ?_ ?_ <;> intro h5 q5
 refine ac ?_
 refine ac ?_
 · refine int_eq ?_; unfold rmodI; (repeat (first | rw [if_pos (by omega)] | rw [if_neg (by omega)]))
 refine ac ?_
 refine Tr.cn rfl ?_ ?_ <;> intro h6 q6
 refine ac ?_
 refine ac ?_
 · refine int_eq ?_; unfold rmodI; (repeat (first | rw [if_pos (by omega)] | rw [if_neg (by omega)]))
 refine ac ?_
 refine Tr.cn rfl ?_ ?_ <;> intro h7 q7
 refine ac ?_
 refine ac ?_
 · refine int_eq ?_; unfold rmodI; (repeat (first | rw [if_pos (by omega)] | rw [if_neg (by omega)]))
 refine ac ?_
 refine ac ?_
 refine ac ?_
 · refine int_eq ?_; unfold rmodI; (repeat (rw [if_neg (by omega)]))
end Go.Proofs.YtppeeogffbpcbaaGreat
namespace Go.Proofs.YtppeeogffbpcbaaGreat
open Go Go.RowKit Cp

theorem among_0 (b c : Int) : amongI b [0] [c] = if b = 0 then c else 0 := by
  unfold amongI idx
  by_cases h : b = 0
  · subst h; rfl
  · have : List.findIdx? (fun x => b == x) [0] = none := by simp [h]
    rw [this, if_neg h]; rfl
theorem strength_mod {alg b : Int} (h : alg = 5 ∨ alg = 6 ∨ alg = 10 ∨ alg = 11) : rmodI b = strength alg b := by
  rw [rmodI_eq]
  rcases h with rfl | rfl | rfl | rfl <;> rfl
theorem strength_rest {alg b : Int} (h : ¬ (alg = 5 ∨ alg = 6 ∨ alg = 7 ∨ alg = 9 ∨ alg = 10 ∨ alg = 11 ∨ alg = 12 ∨ alg = 13 ∨ alg = 14 ∨ alg = 15 ∨ alg = 16 ∨ alg = 17)) : amongI b [0] [singleI alg] = strength alg b := by
  rw [among_0]
  by_cases hin : 1 ≤ alg ∧ alg ≤ 22
  · have ha : alg = 1 ∨ alg = 2 ∨ alg = 3 ∨ alg = 4 ∨ alg = 8 ∨ alg = 18 ∨ alg = 19 ∨ alg = 20 ∨ alg = 21 ∨ alg = 22 := by omega
    rcases ha with rfl | rfl | rfl | rfl | rfl | rfl | rfl | rfl | rfl | rfl <;> rfl
  · have h1 : singleI alg = 0 := by unfold singleI; (repeat (first | rw [if_pos (by omega)] | rw [if_neg (by omega)]))
    unfold strength
    rw [h1, if_neg hin]; split <;> rfl
theorem strength_cur {alg b : Int} (h : alg = 7 ∨ alg = 12) : strength alg b = if (curvs.any fun x => b == x) = true then b.tdiv 2 else 0 := by
  rcases h with rfl | rfl <;> rfl

theorem w_RStrength {alg bits : Int}  : Fun Tryz.prog 203 [agg [int alg, int bits]] (int (strength alg bits)) := by
 refine fo Tryz.func203 rfl ⟨rfl, rfl⟩ fun M0 w0 => ?_
 iterate 4 refine ac ?_
 refine Tr.cn rfl ?_ ?_ <;> intro h1 q1
 refine ac ?_
 refine Tr.cond rfl (fun _ => ?_) (fun h => nomatch h1.symm.trans h)
 refine ac ?_
 refine co rfl (kc1 (w_Rmodulus) rfl rfl) ?_
 refine ac ?_
 refine ac ?_
 · refine int_eq ?_; exact strength_mod (by omega)
 refine ac ?_
 refine Tr.cn rfl ?_ ?_ <;> intro h2 q2
 refine ac ?_
 refine Tr.cond rfl (fun _ => ?_) (fun h => nomatch h2.symm.trans h)
 refine ac ?_
 refine co rfl (kc1 (w_Rmodulus) rfl rfl) ?_
 refine ac ?_
 refine wk1 2 rfl ?_
 refine ac ?_
 · refine int_eq ?_; exact strength_mod (by omega)
 refine ac ?_
 refine Tr.cn rfl ?_ ?_ <;> intro h3 q3
 refine ac ?_
 refine Tr.cond rfl (fun _ => ?_) (fun h => nomatch h3.symm.trans h)
 refine ac ?_
 refine co rfl (kc1 (w_Rmodulus) rfl rfl) ?_
 refine ac ?_
 refine wk1 2 rfl ?_
 refine ac ?_
 · refine int_eq ?_; exact strength_mod (by omega)
 refine ac ?_
 refine wk4 1 3 7 8 rfl ?_
 refine Tr.cn rfl ?_ ?_ <;> intro h4 q4
 refine ac ?_
 refine co rfl (kc1 (w_Rmodulus) rfl rfl) ?_
 refine ac ?_
 refine ac ?_
 · refine int_eq ?_; exact strength_mod (by omega)
 refine ac ?_
 refine Tr.cn rfl ?_ ?_ <;> intro h5 q5
 refine ac ?_
 refine Tr.cond rfl (fun _ => ?_) (fun h => nomatch h5.symm.trans h)
 refine ac ?_
 refine Ch.cs 20 rfl ?_ ?_ <;> intro h6 q6
 refine ac ?_
 refine wk2 3 35 rfl ?_
 refine ac ?_
 refine co rfl (ok_quo rfl (vl rfl) (vl rfl) (by omega)) ?_
 refine ac ?_
 refine ac ?_
 · refine int_eq ?_; rw [strength_cur (by omega)]; have hb : bits = 160 ∨ bits = 224 ∨ bits = 256 ∨ bits = 384 ∨ bits = 521 := (by omega); rcases hb with rfl | rfl | rfl | rfl | rfl <;> rfl
 refine ac ?_
 refine Ch.cs 24 rfl ?_ ?_ <;> intro h7 q7
 refine ac ?_
 refine wk2 3 35 rfl ?_
 refine ac ?_
 refine co rfl (ok_quo rfl (vl rfl) (vl rfl) (by omega)) ?_
 refine ac ?_
 refine ac ?_
 · refine int_eq ?_; rw [strength_cur (by omega)]; have hb : bits = 160 ∨ bits = 224 ∨ bits = 256 ∨ bits = 384 ∨ bits = 521 := (by omega); rcases hb with rfl | rfl | rfl | rfl | rfl <;> rfl
 refine ac ?_
 refine Ch.cs 28 rfl ?_ ?_ <;> intro h8 q8
 refine ac ?_
 refine wk2 3 35 rfl ?_
 refine ac ?_
 refine co rfl (ok_quo rfl (vl rfl) (vl rfl) (by omega)) ?_
 refine ac ?_
 refine ac ?_
 · refine int_eq ?_; rw [strength_cur (by omega)]; have hb : bits = 160 ∨ bits = 224 ∨ bits = 256 ∨ bits = 384 ∨ bits = 521 := (by omega); rcases hb with rfl | rfl | rfl | rfl | rfl <;> rfl
 refine ac ?_
 refine Ch.cs 32 rfl ?_ ?_ <;> intro h9 q9
 refine ac ?_
 refine wk2 3 35 rfl ?_
 refine ac ?_
 refine co rfl (ok_quo rfl (vl rfl) (vl rfl) (by omega)) ?_
 refine ac ?_
 refine ac ?_
 · refine int_eq ?_; rw [strength_cur (by omega)]; have hb : bits = 160 ∨ bits = 224 ∨ bits = 256 ∨ bits = 384 ∨ bits = 521 := (by omega); rcases hb with rfl | rfl | rfl | rfl | rfl <;> rfl
 refine ac ?_
 refine wk2 3 35 rfl ?_
 refine Tr.cn rfl ?_ ?_ <;> intro h10 q10
 refine ac ?_
 refine co rfl (ok_quo rfl (vl rfl) (vl rfl) (by omega)) ?_
 refine ac ?_
 refine ac ?_
 · refine int_eq ?_; rw [strength_cur (by omega)]; have hb : bits = 160 ∨ bits = 224 ∨ bits = 256 ∨ bits = 384 ∨ bits = 521 := (by omega); rcases hb with rfl | rfl | rfl | rfl | rfl <;> rfl
 refine ac ?_
 refine ac ?_
 refine ac ?_
 · refine int_eq ?_; rw [strength_cur (by omega), if_neg (by simp [curvs]; omega)]
 refine ac ?_
 refine Tr.cn rfl ?_ ?_ <;> intro h11 q11
 refine ac ?_
 refine Ch.cs 20 rfl ?_ ?_ <;> intro h12 q12
 refine ac ?_
 refine wk2 3 35 rfl ?_
 refine ac ?_
 refine co rfl (ok_quo rfl (vl rfl) (vl rfl) (by omega)) ?_
 refine ac ?_
 refine ac ?_
 · refine int_eq ?_; rw [strength_cur (by omega)]; have hb : bits = 160 ∨ bits = 224 ∨ bits = 256 ∨ bits = 384 ∨ bits = 521 := (by omega); rcases hb with rfl | rfl | rfl | rfl | rfl <;> rfl
 refine ac ?_
 refine Ch.cs 24 rfl ?_ ?_ <;> intro h13 q13
 refine ac ?_
 refine wk2 3 35 rfl ?_
 refine ac ?_
 refine co rfl (ok_quo rfl (vl rfl) (vl rfl) (by omega)) ?_
 refine ac ?_
 refine ac ?_
 · refine int_eq ?_; rw [strength_cur (by omega)]; have hb : bits = 160 ∨ bits = 224 ∨ bits = 256 ∨ bits = 384 ∨ bits = 521 := (by omega); rcases hb with rfl | rfl | rfl | rfl | rfl <;> rfl
 refine ac ?_
 refine Ch.cs 28 rfl ?_ ?_ <;> intro h14 q14
 refine ac ?_
 refine wk2 3 35 rfl ?_
 refine ac ?_
 refine co rfl (ok_quo rfl (vl rfl) (vl rfl) (by omega)) ?_
 refine ac ?_
 refine ac ?_
 · refine int_eq ?_; rw [strength_cur (by omega)]; have hb : bits = 160 ∨ bits = 224 ∨ bits = 256 ∨ bits = 384 ∨ bits = 521 := (by omega); rcases hb with rfl | rfl | rfl | rfl | rfl <;> rfl
 refine ac ?_
 refine Ch.cs 32 rfl ?_ ?_ <;> intro h15 q15
 refine ac ?_
 refine wk2 3 35 rfl ?_
 refine ac ?_
 refine co rfl (ok_quo rfl (vl rfl) (vl rfl) (by omega)) ?_
 refine ac ?_
 refine ac ?_
 · refine int_eq ?_; rw [strength_cur (by omega)]; have hb : bits = 160 ∨ bits = 224 ∨ bits = 256 ∨ bits = 384 ∨ bits = 521 := (by omega); rcases hb with rfl | rfl | rfl | rfl | rfl <;> rfl
 refine ac ?_
 refine wk2 3 35 rfl ?_
 refine Tr.cn rfl ?_ ?_ <;> intro h16 q16
 refine ac ?_
 refine co rfl (ok_quo rfl (vl rfl) (vl rfl) (by omega)) ?_
 refine ac ?_
 refine ac ?_
 · refine int_eq ?_; rw [strength_cur (by omega)]; have hb : bits = 160 ∨ bits = 224 ∨ bits = 256 ∨ bits = 384 ∨ bits = 521 := (by omega); rcases hb with rfl | rfl | rfl | rfl | rfl <;> rfl
 refine ac ?_
 refine ac ?_
 refine ac ?_
 · refine int_eq ?_; rw [strength_cur (by omega), if_neg (by simp [curvs]; omega)]
 refine ac ?_
 refine Tr.cn rfl ?_ ?_ <;> intro h17 q17
 refine ac ?_
 refine co rfl (ok_call rfl (w_among (l := [44, 65, 87]) (m := [128, 192, 256]) (by simp)) ⟨ke rfl, ⟨_, rfl, full_le _ _⟩, ⟨_, rfl, full_le _ _⟩, trivial⟩) ?_
 refine ac ?_
 refine wk1 2 rfl ?_
 refine ac ?_
 · refine int_eq ?_; have ha : alg = 9 := (by omega); rcases ha with rfl <;> rfl
 refine ac ?_
 refine Tr.cn rfl ?_ ?_ <;> intro h18 q18
 refine ac ?_
 refine co rfl (ok_call rfl (w_among (l := [512, 768, 1024]) (m := [128, 192, 256]) (by simp)) ⟨ke rfl, ⟨_, rfl, full_le _ _⟩, ⟨_, rfl, full_le _ _⟩, trivial⟩) ?_
 refine ac ?_
 refine wk1 2 rfl ?_
 refine ac ?_
 · refine int_eq ?_; have ha : alg = 13 := (by omega); rcases ha with rfl <;> rfl
 refine ac ?_
 refine wk4 1 3 7 50 rfl ?_
 refine Tr.cn rfl ?_ ?_ <;> intro h19 q19
 refine ac ?_
 refine co rfl (ok_call rfl (w_among (l := [40, 128]) (m := [40, 60]) (by simp)) ⟨ke rfl, ⟨_, rfl, full_le _ _⟩, ⟨_, rfl, full_le _ _⟩, trivial⟩) ?_
 refine ac ?_
 refine ac ?_
 · refine int_eq ?_; have ha : alg = 14 := (by omega); rcases ha with rfl <;> rfl
 refine ac ?_
 refine Tr.cn rfl ?_ ?_ <;> intro h20 q20
 refine ac ?_
 refine co rfl (ok_call rfl (w_among (l := [112, 168]) (m := [80, 112]) (by simp)) ⟨ke rfl, ⟨_, rfl, full_le _ _⟩, ⟨_, rfl, full_le _ _⟩, trivial⟩) ?_
 refine ac ?_
 refine ac ?_
 · refine int_eq ?_; have ha : alg = 15 := (by omega); rcases ha with rfl <;> rfl
 refine ac ?_
 refine Tr.cn rfl ?_ ?_ <;> intro h21 q21
 refine ac ?_
 refine Tr.cond rfl (fun _ => ?_) (fun h => nomatch h21.symm.trans h)
 refine ac ?_
 refine co rfl (ok_call rfl (w_among (l := [128, 256]) (m := [128, 256]) (by simp)) ⟨ke rfl, ⟨_, rfl, full_le _ _⟩, ⟨_, rfl, full_le _ _⟩, trivial⟩) ?_
 refine ac ?_
 refine ac ?_
 · refine int_eq ?_; have ha : alg = 16 ∨ alg = 17 := (by omega); rcases ha with rfl | rfl <;> rfl
 refine ac ?_
 refine Tr.cn rfl ?_ ?_ <;> intro h22 q22
 refine ac ?_
 refine co rfl (ok_call rfl (w_among (l := [128, 256]) (m := [128, 256]) (by simp)) ⟨ke rfl, ⟨_, rfl, full_le _ _⟩, ⟨_, rfl, full_le _ _⟩, trivial⟩) ?_
 refine ac ?_
 refine wk1 2 rfl ?_
 refine ac ?_
 · refine int_eq ?_; have ha : alg = 16 ∨ alg = 17 := (by omega); rcases ha with rfl | rfl <;> rfl
 refine ac ?_
 refine ac ?_
 refine co rfl (kc1 (w_single) rfl rfl) (co rfl (ok_buildSlice (xs := [.tmp 73]) (rows := [[_]]) rfl rfl Tryz.underlying22 sz3 z3 rfl (by decide) ⟨⟨(by exact rfl), (VL.le (vl rfl) (one_cellsP _))⟩, trivial⟩ (by decide)) ?_)
 refine co rfl (ok_call rfl (w_among (l := [0]) (m := [singleI alg]) (by simp)) ⟨ke rfl, ⟨_, rfl, full_le _ _⟩, ⟨_, rfl, full_le _ _⟩, trivial⟩) ?_
 refine ac ?_
 refine wk1 2 rfl ?_
 refine ac ?_
 · refine int_eq ?_; exact strength_rest (by omega)
theorem w_RValid {alg bits : Int}  : Fun Tryz.prog 187 [agg [int alg, int bits]] (bool (decide (strength alg bits > 0))) := by
 refine fo Tryz.func187 rfl ⟨rfl, rfl⟩ fun M0 w0 => ?_
 refine ac ?_
 refine ac ?_
 refine co rfl (kc1 (w_RStrength) rfl rfl) ?_
 refine ac ?_
 refine ac ?_
 · exact Pr.le_refl _
def rtab : List (List UInt8 × Int) := catTable.map fun r => (r.name, r.kind)
theorem rtab_at {alg : Int} (h : 1 ≤ alg ∧ alg ≤ 22) : rtab[alg.toNat]? = some ((catOf alg).name, (catOf alg).kind) := by
  unfold rtab; rw [List.getElem?_map, catTable_at h]; rfl

theorem w_Rrows   : Fun Tryz.prog 181 [] (slice 2 (rtab.map fun r => [str r.1, int r.2])) := by
 refine fo Tryz.func181 rfl ⟨rfl, rfl⟩ fun M0 w0 => ?_
 refine ac ?_
 refine ac ?_
 refine wk1 0 rfl ?_
 refine ac ?_
 · exact full_le _ _
theorem w_RKind {alg : Int}  : Fun Tryz.prog 127 [int alg] (int (catOf alg).kind) := by
 refine fo Tryz.func127 rfl ⟨rfl, rfl⟩ fun M0 w0 => ?_
 refine ac ?_
 refine ac ?_
 refine Ch.cs 5 rfl ?_ ?_ <;> intro h1 q1
 refine ac ?_
 refine ac ?_
 refine ac ?_
 · refine int_eq ?_; unfold catOf; rw [if_neg (by omega)]; rfl
 refine ac ?_
 refine Tr.cn rfl ?_ ?_ <;> intro h2 q2
 refine ac ?_
 refine ac ?_
 · refine int_eq ?_; unfold catOf; rw [if_neg (by omega)]; rfl
 have hin : 1 ≤ alg ∧ alg ≤ 22 := by omega
 refine ac ?_
 refine Tr.seq (Tr.reg0 (co rfl (kc0 (w_Rrows) rfl) (cm rfl (co rfl (ok_indexAddr rfl Tryz.underlying210 sz209 (vl rfl) (vl rfl) (by omega) (row_atI (f := fun r : List UInt8 × Int => [str r.1, int r.2]) (rtab_at hin))) ?_))))
 refine ac ?_
 refine ac ?_
 · exact Pr.le_refl _
theorem w_Signature {alg bits : Int}  : Fun Tryz.prog 180 [agg [int alg, int bits]] (bool (decide (strength alg bits > 0) && (catOf alg).kind == 2)) := by
 refine fo Tryz.func180 rfl ⟨rfl, rfl⟩ fun M0 w0 => ?_
 refine ac ?_
 refine ac ?_
 refine co rfl (kc1 (w_RValid) rfl rfl) (cm rfl ?_)
 refine Ch.cs 5 rfl ?_ ?_ <;> intro h1 q1
 refine ac ?_
 refine cy h1 rfl (kc1 (w_RKind) rfl rfl) ?_
 refine ac ?_
 refine ac ?_
 · refine bool_eq ?_; simp_all
 refine ac ?_
 refine ac ?_
 · refine bool_eq ?_; simp_all; omega
end Go.Proofs.YtppeeogffbpcbaaGreat
namespace Cp
open Go Go.RowKit
theorem ok_appN {P : Program} {E : Env} {I : Asn} {o : Oper} {t e : TypeId} {y : Operand} {sz bytes : Nat} {zs : List Value} {rows : List (List Pr)} (ho : o.op = .call { callee := .builtin .append, args := #[.const (.slice none 0 0), y], argTypes := #[t, t] })
    (ht : P.underlying t = some (.slice e)) (hz : sizeB P e = some sz) (hby : bytesB P e = some bytes) (hze : zeroB P e = some zs) (hzl : zs.length = sz) (hsz : 0 < sz) (hy : VL E y (slice sz rows)) (hmax : rows.length ≤ maxLen) (hfit : rows.length * bytes ≤ 140737488355328) : OpOK P I o E (slice sz rows) :=
  OpOK.val fun M w a he hI => by
    have h0 := (HpH.begin (I.bd _ _ hI)).add0 (r := noRes) rfl trivial
    obtain ⟨v', w', M', h1, h2, h3, h4⟩ := app_core (ty := o.type) (j := 0) (v := .slice none 0 0) (rows := []) ht hz hby hze hzl hsz h0 rfl (.inr ⟨rfl, rfl⟩) (nil_slice sz M w _ rfl) (hy.ev he (by simp [ho, Op.operands, Call.operands])) (by simpa using hmax) (by simpa using hfit)
    have h5 : a.eval (.const (.slice none 0 0)) = .slice none 0 0 := rfl
    exact ⟨v', w', by simp [execOp, ho, resolve, invoke, builtin, h1, h5], (slice sz rows).st _ _ _ _ _ (Ext.less h4.m) (by simpa using h2), h4.below⟩
end Cp
namespace Cp
open Go Go.RowKit
theorem full_blk {sz : Nat} {rows : List (List Pr)} {M : Av} {w : World} {v : Value} (h : (full sz rows).h M w v) : appBlk v = none := by
  obtain ⟨_, a, rfl⟩ := h
  cases a with
  | none => rfl
  | some a => show (if _ then _ else _) = _; rw [if_neg (by omega)]
/-- Onto a slice without room: a copy that nobody turns. -/
theorem ok_appF {P : Program} {E : Env} {I : Asn} {o : Oper} {t e : TypeId} {x y : Operand} {sz bytes : Nat} {zs : List Value} {rows0 rows : List (List Pr)} (ho : o.op = .call { callee := .builtin .append, args := #[x, y], argTypes := #[t, t] })
    (ht : P.underlying t = some (.slice e)) (hz : sizeB P e = some sz) (hby : bytesB P e = some bytes) (hze : zeroB P e = some zs) (hzl : zs.length = sz) (hsz : 0 < sz) (hx : VL E x (full sz rows0)) (hy : VL E y (slice sz rows)) (hmax : rows0.length + rows.length ≤ maxLen) (hfit : (rows0.length + rows.length) * bytes ≤ 140737488355328) : OpOK P I o E (slice sz (rows0 ++ rows)) :=
  OpOK.val fun M w a he hI => by
    have h0 := (HpH.begin (I.bd _ _ hI)).add0 (r := noRes) rfl trivial
    have hv := hx.ev he (by simp [ho, Op.operands, Call.operands])
    obtain ⟨v', w', M', h1, h2, h3, h4⟩ := app_core (ty := o.type) (j := 0) ht hz hby hze hzl hsz h0 rfl (.inr ⟨rfl, full_blk hv⟩) hv.1 (hy.ev he (by simp [ho, Op.operands, Call.operands])) hmax hfit
    exact ⟨v', w', by simp [execOp, ho, resolve, invoke, builtin, h1], (slice sz _).st _ _ _ _ _ (Ext.less h4.m) h2, h4.below⟩
/-- Dice of which the state is not known, in the middle of a region. -/
theorem TO.openD {P : Program} {n : Nat} {E : Env} {M0 : Av} {w0 : World} {S : Nat → Prop} {rs : List Res} {ops : Array Oper} {r : List Oper} {Q : Exit → Act → World → Prop} (i : Nat) {T : TypeId} {b : Nat} (hi : rs[i]? = some (diceEx T b)) (k : ∀ s, TO P n ops r E (Hp M0 w0 S (rs.set i (diceR T b s))) Q) : TO P n ops r E (Hp M0 w0 S rs) Q := by
  rintro m hl a w ⟨M, h1, h2, h3, h4⟩
  have h4 : HpH M0 w0 S rs M w := h4
  obtain ⟨x, hx, hh⟩ := (h4.hold _ (List.mem_of_getElem? hi)).1
  exact k x m hl a w ⟨M, h1, h2, h3, h4.swap1 hi rfl rfl hh⟩
end Cp
namespace Cp
open Go Go.RowKit
theorem OpOK.opn {P : Program} {E : Env} {I : Asn} {o : Oper} {p : Pr} (s : Nat) {α : Type} {f : α → Pr} (hs : E.lookup s = some (Cp.ex f)) (hm : s ∈ looks o) (h : ∀ x, OpOK P I o ((s, f x) :: E) p) : OpOK P I o E p := by
  intro M w a he hI
  obtain ⟨x, hx⟩ := he s _ hm hs
  refine h x M w a (fun t q ht hq => ?_) hI
  simp only [List.lookup] at hq
  by_cases hts : t = s
  · subst hts; simp at hq; subst hq; exact hx
  · rw [show (t == s) = false by simpa using hts] at hq; exact he t q ht hq
end Cp
namespace Cp
open Go Go.RowKit Go.Great
section
variable {P : Program} {n : Nat} {E : Env} {M0 : Av} {w0 : World} {S : Nat → Prop} {rs : List Res}
theorem HpH.swapW {i : Nat} {r r' : Res} {M : Av} {w : World} (h : HpH M0 w0 S rs M w) (hi : rs[i]? = some r) (hb : ∀ b, r'.blk = some b → r.blk = some b) (hn : r'.new = r.new) (hh : r'.h M w) : HpH M0 w0 S (rs.set i r') M w := by
  have hil : i < rs.length := by rcases Nat.lt_or_ge i rs.length with h | h; exact h; rw [List.getElem?_eq_none h] at hi; cases hi
  have h1 := HpH.perm (perm_at hi) h
  refine HpH.perm (perm_set hil) ⟨h1.m0, h1.m, h1.os, h1.tape, h1.output, h1.size, h1.block, h1.bd, fun q hq => ?_, ?_⟩
  · rcases List.mem_cons.1 hq with rfl | hq
    · exact ⟨hh, fun b hbk => by rw [hn]; exact (h1.hold r (by simp)).2 b (hb b hbk)⟩
    · exact h1.hold q (by simp [hq])
  · obtain ⟨h2, h3⟩ := List.pairwise_cons.1 h1.nd
    exact List.Pairwise.cons (fun q hq b hbk => h2 q hq b (hb b hbk)) h3
theorem HpH.toOwe {j : Nat} {e : TypeId} {sz : Nat} {rows : List (List Pr)} {v : Value} {M : Av} {w : World} (h : HpH M0 w0 S rs M w) (hj : rs[j]? = some (ownRes e sz rows v)) : HpH M0 w0 S (rs.set j (oweRes e sz rows v)) M w := by
  rcases (h.hold _ (List.mem_of_getElem? hj)).1 with ⟨h1, h2⟩ | ⟨b, cap, sp, h1, h2, h3, h4, h5⟩
  · subst h2
    exact h.swapW hj (fun b hb => by cases hb) rfl (.inl ⟨h1, _, rfl⟩)
  · subst h1
    cases cap with
    | zero =>
      have hr : rows = [] := List.eq_nil_of_length_eq_zero (by omega)
      subst hr
      exact h.swapW hj (fun b hb => by cases hb) rfl (.inl ⟨rfl, _, rfl⟩)
    | succ c => exact h.swapW hj (fun b hb => hb) rfl (.inr ⟨b, c, sp, rfl, h2, h3, h4, h5⟩)
theorem Fin.toOwe {Q : Exit → Act → World → Prop} {x : Exit} {e : TypeId} {sz : Nat} {rows : List (List Pr)} {v : Value} (j : Nat) (hj : rs[j]? = some (ownRes e sz rows v)) (k : Fin n E (Hp M0 w0 S (rs.set j (oweRes e sz rows v))) Q x) : Fin n E (Hp M0 w0 S rs) Q x :=
  Fin.conv (fun a w hs => by
    obtain ⟨M, h1, h2, h3, h4⟩ := hs
    have h4 : HpH M0 w0 S rs M w := h4
    exact ⟨M, h1, h2, h3, h4.toOwe hj⟩) k
theorem Tr.toOwe {Q : Exit → Act → World → Prop} {c : Code} {e : TypeId} {sz : Nat} {rows : List (List Pr)} {v : Value} (j : Nat) (hj : rs[j]? = some (ownRes e sz rows v)) (k : Tr P n E (Hp M0 w0 S (rs.set j (oweRes e sz rows v))) c Q) : Tr P n E (Hp M0 w0 S rs) c Q :=
  Tr.conv (fun _ _ ⟨M, h1, h2, h3, h4⟩ => ⟨M, h1, h2, h3, HpH.toOwe h4 hj⟩) k
end
end Cp
namespace Cp
open Go Go.RowKit
theorem row_exL {β : Type} {f : β → Pr} {ps : List Pr} {M : Av} {w : World} {ad : Addr} {n : Nat} (h : Row M w ad n (ps ++ [Cp.ex f])) : ∃ x, Row M w ad n (ps ++ [f x]) := by
  obtain ⟨u, h1, h2, h3, x, h4⟩ := h ps.length (Cp.ex f) (by simp)
  refine ⟨x, fun j p hp => ?_⟩
  rcases Nat.lt_trichotomy j ps.length with hj | hj | hj
  · exact h j p (by rw [List.getElem?_append_left hj] at hp ⊢; exact hp)
  · subst hj; simp at hp; subst hp; exact ⟨u, h1, h2, h3, h4⟩
  · rw [List.getElem?_eq_none (by simp; omega)] at hp; cases hp
theorem row_factL {φ : Prop} {q : Pr} {ps : List Pr} {M : Av} {w : World} {ad : Addr} {n : Nat} (h : Row M w ad n (ps ++ [fact φ q])) : φ ∧ Row M w ad n (ps ++ [q]) := by
  obtain ⟨u, h1, h2, h3, hφ, h4⟩ := h ps.length (fact φ q) (by simp)
  refine ⟨hφ, fun j p hp => ?_⟩
  rcases Nat.lt_trichotomy j ps.length with hj | hj | hj
  · exact h j p (by rw [List.getElem?_append_left hj] at hp ⊢; exact hp)
  · subst hj; simp at hp; subst hp; exact ⟨u, h1, h2, h3, h4⟩
  · rw [List.getElem?_eq_none (by simp; omega)] at hp; cases hp
theorem slice_each {α β : Type} {f : α → List Pr} {g : β → List Pr} {φ : α → β → Prop} {sz : Nat} (h : ∀ a M w ad n, Row M w ad n (f a) → ∃ b, φ a b ∧ Row M w ad n (g b)) (hf : ∀ a, (f a).length = sz) (hg : ∀ b, (g b).length = sz) (ms : List α) :
    Pr.le (slice sz (ms.map f)) (Cp.ex fun l : List β => fact (l.length = ms.length ∧ ∀ (i : Nat) a b, ms[i]? = some a → l[i]? = some b → φ a b) (slice sz (l.map g))) := by
  rintro M w v ⟨a, cap, hv, h1, h2, h3, h5⟩
  have hk : ∀ k, k ≤ ms.length → ∃ l : List β, l.length = k ∧ (∀ (i : Nat) a b, ms[i]? = some a → l[i]? = some b → φ a b) ∧ ∀ (i : Nat) b, l[i]? = some b → ∃ ad, a = some ad ∧ Row M w ad (i * sz) (g b) := by
    intro k
    induction k with
    | zero => intro _; exact ⟨[], rfl, by simp, by simp⟩
    | succ k ih =>
      intro hk
      obtain ⟨l, hl, hp, hr⟩ := ih (by omega)
      obtain ⟨x, hx⟩ : ∃ x, ms[k]? = some x := ⟨ms[k], List.getElem?_eq_getElem (by omega)⟩
      obtain ⟨_, ad, had, hrow⟩ := h5 k (f x) (by rw [List.getElem?_map, hx]; rfl)
      obtain ⟨b, hb1, hb2⟩ := h x M w ad (k * sz) hrow
      refine ⟨l ++ [b], by simp [hl], fun i y c hy hc => ?_, fun i c hc => ?_⟩
      · rcases Nat.lt_trichotomy i k with hi | hi | hi
        · rw [List.getElem?_append_left (by omega)] at hc; exact hp i y c hy hc
        · subst hi; rw [List.getElem?_append_right (by omega), hl] at hc; simp at hc; subst hc; rw [hx] at hy; cases hy; exact hb1
        · rw [List.getElem?_eq_none (by simp [hl]; omega)] at hc; cases hc
      · rcases Nat.lt_trichotomy i k with hi | hi | hi
        · rw [List.getElem?_append_left (by omega)] at hc; exact hr i c hc
        · subst hi; rw [List.getElem?_append_right (by omega), hl] at hc; simp at hc; subst hc; exact ⟨ad, had, hb2⟩
        · rw [List.getElem?_eq_none (by simp [hl]; omega)] at hc; cases hc
  obtain ⟨l, hl, hp, hr⟩ := hk ms.length (Nat.le_refl _)
  rw [List.length_map] at hv h1
  refine ⟨l, ⟨hl, hp⟩, a, cap, by rw [List.length_map, hl]; exact hv, by rw [List.length_map, hl]; exact h1, h2, h3, fun i row hrow => ?_⟩
  rw [List.getElem?_map] at hrow
  cases hb : l[i]? with
  | none => rw [hb] at hrow; cases hrow
  | some b =>
    rw [hb] at hrow; simp at hrow; subst hrow
    exact ⟨hg b, hr i b hb⟩
end Cp
namespace Go.Proofs.YtppeeogffbpcbaaGreat
open Go Go.RowKit Cp

/-- A certificate. -/
structure Crt where
  serial : Int
  issuer : List UInt8
  subject : List UInt8
  kalg : Int
  kbits : Int
  keyId : Int
  halg : Int
  hbits : Int
  from_ : Int
  to_ : Int
  auth : Bool
  path : Int
  names : List (List UInt8)
  skey : Int
  ssum : Int
abbrev txts (l : List (List UInt8)) : Pr := slice 1 (l.map fun t => [str t])
abbrev rowCr (c : Crt) : List Pr := [int c.serial, str c.issuer, str c.subject, int c.kalg, int c.kbits, int c.keyId, int c.halg, int c.hbits, int c.from_, int c.to_, bool c.auth, int c.path, txts c.names, int c.skey, int c.ssum]
abbrev certs (l : List Crt) : Pr := slice 15 (l.map rowCr)
structure Crt.fits (c : Crt) : Prop where
  issuer : c.issuer.length ≤ maxLen
  subject : c.subject.length ≤ maxLen
  names : ∀ s ∈ c.names, s.length ≤ maxLen
def keyB (n : Int) : Bool := decide (0 ≤ n) && decide (n ≤ 2147483648)
def sumB (n : Int) : Bool := decide (0 ≤ n) && decide (n < 4294967296)
def letterB (o : List UInt8) (c : UInt8) : Bool := decide (97 ≤ c.toNat ∧ c.toNat ≤ 122) || decide (65 ≤ c.toNat ∧ c.toNat ≤ 90) || decide (48 ≤ c.toNat ∧ c.toNat ≤ 57) || decide (0 ≤ Lib.indexByte o c)
def wordB (s : List UInt8) : Bool := s.all (letterB [45, 95, 46]) && decide (1 ≤ s.length ∧ s.length ≤ 32)
def nameAt (l : List (List UInt8)) (i : Nat) : Bool := named (l[i]?.getD []) && (decide (i = 0) || decide (Lib.compareBytes (l[i - 1]?.getD []) (l[i]?.getD []) = -1))
def namesB (l : List (List UInt8)) : Bool := allI (nameAt l) l.length && decide (l.length ≤ 8)
def ofB (alg bits kind : Int) : Bool := decide (strength alg bits > 0) && (catOf alg).kind == kind
def validB (c : Crt) : Bool :=
  (decide (0 ≤ c.serial) && decide (c.serial ≤ 1099511627776) && named c.issuer && named c.subject && namesB c.names) &&
  (ofB c.kalg c.kbits 2 && keyB c.keyId && ofB c.halg c.hbits 1 && keyB c.skey && sumB c.ssum) &&
  (decide (0 ≤ c.from_) && decide (c.from_ ≤ c.to_) && decide (c.to_ ≤ 40000)) && (decide (0 ≤ c.path) && decide (c.path ≤ 8) && (c.auth || c.path == 0))
def showsB (alg bits id : Int) (l : List Crt) : Bool := ofB alg bits 2 && keyB id && decide (l.length ≤ 8) && l.all validB && match l with | [] => true | c :: _ => decide (c.kalg = alg ∧ c.kbits = bits) && c.keyId == id
/-- What an endpoint shows. -/
structure Idn where
  alg : Int
  bits : Int
  keyId : Int
  chain : List Crt
abbrev rowId (x : Idn) : List Pr := [int x.alg, int x.bits, int x.keyId, certs x.chain]
abbrev idns (l : List Idn) : Pr := slice 4 (l.map rowId)
def Idn.fits (x : Idn) : Prop := ∀ c ∈ x.chain, c.fits
/-- An endpoint. -/
structure Ept where
  name : List UInt8
  least : Int
  most : Int
  suites : List Int
  own : Bool
  ids : List Idn
  anchors : List Int
  hashes : List Int
  fall : Bool
abbrev rowEp (e : Ept) : List Pr := [str e.name, int e.least, int e.most, ints e.suites, bool e.own, idns e.ids, ints e.anchors, ints e.hashes, bool e.fall]
structure Ept.fits (e : Ept) : Prop where
  name : e.name.length ≤ maxLen
  ids : ∀ x ∈ e.ids, x.fits
def ascAt (l : List Int) (i : Nat) : Bool := decide (i = 0) || decide (l[i - 1]?.getD 0 < l[i]?.getD 0)
def ascB (l : List Int) : Bool := allI (ascAt l) l.length
def suiteAt (l : List Int) (i : Nat) : Bool := decide (1 ≤ l[i]?.getD 0 ∧ l[i]?.getD 0 ≤ 16) && !((l.take i).any fun x => l[i]?.getD 0 == x)
def suitesB (l : List Int) : Bool := allI (suiteAt l) l.length
def hashB (n : Int) : Bool := (catOf n).kind == 1
def idB (x : Idn) : Bool := showsB x.alg x.bits x.keyId x.chain
def eptB (e : Ept) : Bool :=
  (wordB e.name && decide (1 ≤ e.least) && decide (e.least ≤ e.most) && decide (e.most ≤ 4) && suitesB e.suites) &&
  (decide (e.ids.length ≤ 4) && decide (e.anchors.length ≤ 16) && ascB e.anchors && ascB e.hashes) && e.ids.all idB && e.anchors.all keyB && e.hashes.all hashB
theorem any_not {β : Type} (p : β → Bool) (l : List β) : (l.any fun x => !p x) = !l.all p := by
  induction l with
  | nil => rfl
  | cons a l ih => rw [List.any_cons, List.all_cons, ih]; cases p a <;> rfl
theorem getD_at {β : Type} {l : List β} {k : Nat} {x d : β} (h : l[k]? = some x) : l[k]?.getD d = x := by rw [h]; rfl

theorem w_slIB {s : List UInt8} {c : UInt8}  : Fun Tryz.prog 264 [str s, is (.int .u8 ((c.toNat : Nat) : Int))] (int (Lib.indexByte s c)) := by
 refine fo Tryz.func264 rfl ⟨rfl, rfl⟩ fun M0 w0 => ?_
 refine ac ?_
 refine ac ?_
 refine co rfl (ok_idxbyte rfl Tryz.func293 (by kernel_rfl) (by kernel_rfl) (by kernel_rfl) (by kernel_rfl) (vl rfl) (vl rfl)) ?_
 refine ac ?_
 refine ac ?_
 · exact Pr.le_refl _
theorem w_sIB {s : List UInt8} {c : UInt8}  : Fun Tryz.prog 222 [str s, is (.int .u8 ((c.toNat : Nat) : Int))] (int (Lib.indexByte s c)) := by
 refine fo Tryz.func222 rfl ⟨rfl, rfl⟩ fun M0 w0 => ?_
 refine ac ?_
 refine ac ?_
 refine co rfl (kc2 (w_slIB) rfl rfl rfl) ?_
 refine ac ?_
 refine ac ?_
 · exact Pr.le_refl _
theorem w_Letter {o : List UInt8} {c : UInt8}  : Fun Tryz.prog 188 [is (.int .u8 ((c.toNat : Nat) : Int)), str o] (bool (letterB o c)) := by
 refine fo Tryz.func188 rfl ⟨rfl, rfl⟩ fun M0 w0 => ?_
 refine ac ?_
 refine ac ?_
 refine Ch.cs 7 rfl ?_ ?_ <;> intro h1 q1
 refine ac ?_
 refine Ch.cs 11 rfl ?_ ?_ <;> intro h2 q2
 refine ac ?_
 refine wk1 4 rfl ?_
 refine ac ?_
 · refine bool_eq ?_; unfold letterB; simp_all; omega
 refine ac ?_
 refine Ch.cs 14 rfl ?_ ?_ <;> intro h3 q3
 refine ac ?_
 refine Ch.cs 19 rfl ?_ ?_ <;> intro h4 q4
 refine ac ?_
 refine wk1 4 rfl ?_
 refine ac ?_
 · refine bool_eq ?_; unfold letterB; simp_all; omega
 refine ac ?_
 refine Ch.cs 22 rfl ?_ ?_ <;> intro h5 q5
 refine ac ?_
 refine Ch.cs 27 rfl ?_ ?_ <;> intro h6 q6
 refine ac ?_
 refine wk1 4 rfl ?_
 refine ac ?_
 · refine bool_eq ?_; unfold letterB; simp_all; omega
 refine ac ?_
 refine cy h6 rfl (kc2 (w_sIB) rfl rfl rfl) ?_
 refine ac ?_
 refine wk1 4 rfl ?_
 refine ac ?_
 · refine bool_eq ?_; unfold letterB; simp_all; omega
 refine ac ?_
 refine cy rfl rfl (kc2 (w_sIB) rfl rfl rfl) ?_
 refine ac ?_
 refine wk1 4 rfl ?_
 refine ac ?_
 · refine bool_eq ?_; unfold letterB; simp_all; omega
 refine ac ?_
 refine Ch.cs 22 rfl ?_ ?_ <;> intro h7 q7
 refine ac ?_
 refine Ch.cs 27 rfl ?_ ?_ <;> intro h8 q8
 refine ac ?_
 refine wk1 4 rfl ?_
 refine ac ?_
 · refine bool_eq ?_; unfold letterB; simp_all; omega
 refine ac ?_
 refine cy h8 rfl (kc2 (w_sIB) rfl rfl rfl) ?_
 refine ac ?_
 refine wk1 4 rfl ?_
 refine ac ?_
 · refine bool_eq ?_; unfold letterB; simp_all; omega
 refine ac ?_
 refine cy rfl rfl (kc2 (w_sIB) rfl rfl rfl) ?_
 refine ac ?_
 refine wk1 4 rfl ?_
 refine ac ?_
 · refine bool_eq ?_; unfold letterB; simp_all; omega
 refine ac ?_
 refine Ch.cs 14 rfl ?_ ?_ <;> intro h9 q9
 refine ac ?_
 refine Ch.cs 19 rfl ?_ ?_ <;> intro h10 q10
 refine ac ?_
 refine wk1 4 rfl ?_
 refine ac ?_
 · refine bool_eq ?_; unfold letterB; simp_all; omega
 refine ac ?_
 refine Ch.cs 22 rfl ?_ ?_ <;> intro h11 q11
 refine ac ?_
 refine Ch.cs 27 rfl ?_ ?_ <;> intro h12 q12
 refine ac ?_
 refine wk1 4 rfl ?_
 refine ac ?_
 · refine bool_eq ?_; unfold letterB; simp_all; omega
 refine ac ?_
 refine cy h12 rfl (kc2 (w_sIB) rfl rfl rfl) ?_
 refine ac ?_
 refine wk1 4 rfl ?_
 refine ac ?_
 · refine bool_eq ?_; unfold letterB; simp_all; omega
 refine ac ?_
 refine cy rfl rfl (kc2 (w_sIB) rfl rfl rfl) ?_
 refine ac ?_
 refine wk1 4 rfl ?_
 refine ac ?_
 · refine bool_eq ?_; unfold letterB; simp_all; omega
 refine ac ?_
 refine Ch.cs 22 rfl ?_ ?_ <;> intro h13 q13
 refine ac ?_
 refine Ch.cs 27 rfl ?_ ?_ <;> intro h14 q14
 refine ac ?_
 refine wk1 4 rfl ?_
 refine ac ?_
 · refine bool_eq ?_; unfold letterB; simp_all; omega
 refine ac ?_
 refine cy h14 rfl (kc2 (w_sIB) rfl rfl rfl) ?_
 refine ac ?_
 refine wk1 4 rfl ?_
 refine ac ?_
 · refine bool_eq ?_; unfold letterB; simp_all; omega
 refine ac ?_
 refine cy rfl rfl (kc2 (w_sIB) rfl rfl rfl) ?_
 refine ac ?_
 refine wk1 4 rfl ?_
 refine ac ?_
 · refine bool_eq ?_; unfold letterB; simp_all; omega
theorem w_Word {s : List UInt8} (hs : s.length ≤ maxLen) : Fun Tryz.prog 142 [str s] (bool (wordB s)) := by
 refine fo Tryz.func142 rfl ⟨rfl, rfl⟩ fun M0 w0 => ?_
 refine ac ?_
 refine ac ?_
 refine co rfl (ok_bytes rfl Tryz.underlying9 Tryz.underlying198 Tryz.underlying5 (vl rfl) (by assumption)) ?_
 refine ac ?_
 refine Tr.block (Tr.lenm 6 rfl fun hl6 => (Tr.loopw [(0, _), (6, _), (7, _)] (kk3 rfl) (fun k : Nat => [(8, int ((k : Nat) : Int))]) (fun k : Nat => k ≤ (s).length ∧ (∀ j y, j < k → s[j]? = some y → (!letterB [45, 95, 46] y) = false)) (fun k : Nat => (s).length - k) 0 (⟨Nat.zero_le _, fun j y hj => absurd hj (by omega)⟩) ⟨ke rfl, trivial⟩ ?_))
 rintro k ⟨hle_k, hinv_k⟩
 refine ac ?_
 refine Tr.seq ?_
 refine Tr.cn rfl ?_ ?_ <;> intro h1 q1
 have hk_k : k < (s).length := lt_of_dec h1
 obtain ⟨c, hx_k⟩ := at_ hk_k
 refine ac ?_
 refine Tr.seq (Tr.block (Tr.seq (Tr.reg0 (co rfl (ok_indexAddr rfl Tryz.underlying198 sz5 (vl rfl) (vl rfl) (by omega) (by exact row_at (by assumption))) ?_))))
 refine ac ?_
 refine ac ?_
 refine co rfl (kc2 (w_Letter) rfl rfl rfl) ?_
 refine ac ?_
 refine Tr.cn rfl ?_ ?_ <;> intro h2 q2
 refine ac ?_
 refine ac ?_
 · refine bool_eq ?_; unfold wordB; rw [all_hit (p := letterB [45, 95, 46]) hx_k (by simp_all)]; rfl
 refine ac ?_
 refine ac ?_
 exact Fin.fam_same (k + 1) ⟨⟨hk_k, step_no (p := fun c => !letterB [45, 95, 46] c) hx_k (by simp_all) hinv_k⟩, by omega⟩ ⟨⟨_, rfl, int_succ k⟩, ke rfl, ke rfl, ke rfl, trivial⟩
 have he_k : k = (s).length := by have := ge_of_dec h1; omega
 subst he_k
 refine ac ?_
 refine ac ?_
 refine Ch.cs 19 rfl ?_ ?_ <;> intro h3 q3
 refine ac ?_
 refine wk1 2 rfl ?_
 refine ac ?_
 · refine bool_eq ?_; unfold wordB; rw [all_end hinv_k, Bool.true_and]; rw [decide_eq_decide]; omega
 refine ac ?_
 refine wk1 2 rfl ?_
 refine ac ?_
 · refine bool_eq ?_; unfold wordB; rw [all_end hinv_k, Bool.true_and]; symm; rw [decide_eq_false_iff_not]; omega
theorem w_CKey {n : Int}  : Fun Tryz.prog 149 [int n] (bool (keyB n)) := by
 refine fo Tryz.func149 rfl ⟨rfl, rfl⟩ fun M0 w0 => ?_
 refine ac ?_
 refine ac ?_
 refine Ch.cs 5 rfl ?_ ?_ <;> intro h1 q1
 refine ac ?_
 refine ac ?_
 · refine bool_eq ?_; unfold keyB; simp_all
 refine ac ?_
 refine ac ?_
 · refine bool_eq ?_; unfold keyB; simp_all; omega
theorem e_CKey : Entry Tryz.prog 149 := ⟨_, Tryz.func149, rfl, rfl⟩
theorem w_Csum {n : Int}  : Fun Tryz.prog 269 [int n] (bool (sumB n)) := by
 refine fo Tryz.func269 rfl ⟨rfl, rfl⟩ fun M0 w0 => ?_
 refine ac ?_
 refine ac ?_
 refine Ch.cs 5 rfl ?_ ?_ <;> intro h1 q1
 refine ac ?_
 refine ac ?_
 · refine bool_eq ?_; unfold sumB; simp_all
 refine ac ?_
 refine ac ?_
 · refine bool_eq ?_; unfold sumB; simp_all; omega
theorem w_Cof {alg bits kind : Int}  : Fun Tryz.prog 268 [agg [int alg, int bits], int kind] (bool (ofB alg bits kind)) := by
 refine fo Tryz.func268 rfl ⟨rfl, rfl⟩ fun M0 w0 => ?_
 refine ac ?_
 refine ac ?_
 refine co rfl (kc1 (w_Valid) rfl rfl) (cm rfl ?_)
 refine Ch.cs 7 rfl ?_ ?_ <;> intro h1 q1
 refine ac ?_
 refine cy h1 rfl (kc1 (w_Kind) rfl rfl) ?_
 refine ac ?_
 refine ac ?_
 · refine bool_eq ?_; unfold ofB; simp_all
 refine ac ?_
 refine ac ?_
 · refine bool_eq ?_; unfold ofB; simp_all; omega
theorem w_Cnamed {l : List (List UInt8)} (hf : ∀ s ∈ l, s.length ≤ maxLen) : Fun Tryz.prog 267 [txts l] (bool (namesB l)) := by
 refine fo Tryz.func267 rfl ⟨rfl, rfl⟩ fun M0 w0 => (Tr.lenm 0 rfl fun hlm_0 => ?_)
 refine ac ?_
 refine ac ?_
 refine Tr.block (Tr.loopw [(0, _), (5, _), (6, _)] (kk3 rfl) (fun k : Nat => [(7, int ((k : Nat) : Int))]) (fun k : Nat => k ≤ (l).length ∧ (∀ j, j < k → nameAt l j = true)) (fun k : Nat => (l).length - k) 0 (⟨Nat.zero_le _, fun j hj => absurd hj (by omega)⟩) ⟨ke rfl, trivial⟩ ?_)
 rintro k ⟨hle_k, hinv_k⟩
 refine ac ?_
 refine Tr.seq ?_
 refine Tr.cn rfl ?_ ?_ <;> intro h1 q1
 have hk_k : k < (l).length := lt_of_dec h1
 obtain ⟨s, hx_k⟩ := at_ hk_k
 have hsf := hf s (List.mem_of_getElem? hx_k)
 have hg := getD_at (d := []) hx_k
 refine ac ?_
 refine ac ?_
 refine co rfl (ok_indexAddr rfl Tryz.underlying74 sz9 (vl rfl) (vl rfl) (by omega) (row_at hx_k)) ?_
 refine ac ?_
 refine ac ?_
 refine co rfl (kc1 (w_Named hsf) rfl rfl) ?_
 refine ac ?_
 refine Ch.cs 15 rfl ?_ ?_ <;> intro h2 q2
 refine ac ?_
 refine wk5 0 5 6 7 27 rfl ?_
 refine ac ?_
 refine ac ?_
 · refine bool_eq ?_; unfold namesB; rw [allI_hit (p := nameAt l) (k := k) (by omega) (by unfold nameAt; rw [hg]; simp_all)]; rfl
 refine ac ?_
 refine Ch.cs 18 rfl ?_ ?_ <;> intro h3 q3
 have hk0 : 0 < k := by simpa using h3
 obtain ⟨y, hy⟩ := at_ (l := l) (k := k - 1) (by omega)
 have hgy := getD_at (d := []) hy
 refine ac ?_
 refine cy h3 rfl (ok_indexAddr rfl Tryz.underlying74 sz9 (vl rfl) (vl rfl) (by omega) (by rw [show ((k : Nat) : Int) - 1 = ((k - 1 : Nat) : Int) by omega]; exact row_at hy)) ?_
 refine ac ?_
 refine cy h3 rfl (ok_ges rfl (vl rfl) (vl rfl)) ?_
 refine ac ?_
 refine wk5 0 5 6 7 27 rfl ?_
 refine Tr.cn rfl ?_ ?_ <;> intro h4 q4
 refine ac ?_
 refine ac ?_
 · refine bool_eq ?_; unfold namesB; rw [allI_hit (p := nameAt l) (k := k) (by omega) (by unfold nameAt; rw [hg, hgy]; simp_all; omega)]; rfl
 refine ac ?_
 refine ac ?_
 exact Fin.fam_same (k + 1) ⟨⟨hk_k, allI_step hinv_k (by unfold nameAt; rw [hg, hgy]; simp_all)⟩, by omega⟩ ⟨⟨_, rfl, int_succ k⟩, ke rfl, ke rfl, ke rfl, trivial⟩
 refine ac ?_
 refine wk5 0 5 6 7 27 rfl ?_
 refine ac ?_
 refine ac ?_
 exact Fin.fam_same (k + 1) ⟨⟨hk_k, allI_step hinv_k (by unfold nameAt; rw [hg]; simp_all)⟩, by omega⟩ ⟨⟨_, rfl, int_succ k⟩, ke rfl, ke rfl, ke rfl, trivial⟩
 have he_k : k = (l).length := by have := ge_of_dec h1; omega
 subst he_k
 refine ac ?_
 refine ac ?_
 refine ac ?_
 · refine bool_eq ?_; unfold namesB; rw [allI_end hinv_k, Bool.true_and]; simp; omega
theorem w_Cvalid {c : Crt} (hc : c.fits) : Fun Tryz.prog 225 [agg (rowCr c)] (bool (validB c)) := by
 refine fo Tryz.func225 rfl ⟨rfl, rfl⟩ fun M0 w0 => ?_
 refine ac ?_
 refine ac ?_
 refine Ch.cs 6 rfl ?_ ?_ <;> intro h1 q1
 refine ac ?_
 refine wk2 1 28 rfl ?_
 refine ac ?_
 refine ac ?_
 · refine bool_eq ?_; unfold validB; simp_all; omega
 refine ac ?_
 refine Ch.cs 11 rfl ?_ ?_ <;> intro h2 q2
 refine ac ?_
 refine wk2 1 28 rfl ?_
 refine ac ?_
 refine ac ?_
 · refine bool_eq ?_; unfold validB; simp_all; omega
 refine ac ?_
 refine cy h2 rfl (kc1 (w_Named hc.issuer) rfl rfl) ?_
 refine ac ?_
 refine Ch.cs 17 rfl ?_ ?_ <;> intro h3 q3
 refine ac ?_
 refine wk2 1 28 rfl ?_
 refine ac ?_
 refine ac ?_
 · refine bool_eq ?_; unfold validB; simp_all
 refine ac ?_
 refine cy h3 rfl (kc1 (w_Named hc.subject) rfl rfl) ?_
 refine ac ?_
 refine Ch.cs 23 rfl ?_ ?_ <;> intro h4 q4
 refine ac ?_
 refine wk2 1 28 rfl ?_
 refine ac ?_
 refine ac ?_
 · refine bool_eq ?_; unfold validB; simp_all
 refine ac ?_
 refine cy h4 rfl (kc1 (w_Cnamed hc.names) rfl rfl) ?_
 refine ac ?_
 refine wk2 1 28 rfl ?_
 refine Tr.cn rfl ?_ ?_ <;> intro h5 q5
 refine ac ?_
 refine ac ?_
 · refine bool_eq ?_; unfold validB; simp_all
 refine ac ?_
 refine ac ?_
 refine co rfl (kc2 (w_Cof) rfl rfl rfl) ?_
 refine ac ?_
 refine Ch.cs 33 rfl ?_ ?_ <;> intro h6 q6
 refine ac ?_
 refine wk2 1 58 rfl ?_
 refine ac ?_
 refine ac ?_
 · refine bool_eq ?_; unfold validB; simp_all
 refine ac ?_
 refine cy h6 rfl (kc1 (w_CKey) rfl rfl) ?_
 refine ac ?_
 refine Ch.cs 39 rfl ?_ ?_ <;> intro h7 q7
 refine ac ?_
 refine wk2 1 58 rfl ?_
 refine ac ?_
 refine ac ?_
 · refine bool_eq ?_; unfold validB; simp_all
 refine ac ?_
 refine cy h7 rfl (kc2 (w_Cof) rfl rfl rfl) ?_
 refine ac ?_
 refine Ch.cs 45 rfl ?_ ?_ <;> intro h8 q8
 refine ac ?_
 refine wk2 1 58 rfl ?_
 refine ac ?_
 refine ac ?_
 · refine bool_eq ?_; unfold validB; simp_all
 refine ac ?_
 refine cy h8 rfl (kc1 (w_CKey) rfl rfl) ?_
 refine ac ?_
 refine Ch.cs 52 rfl ?_ ?_ <;> intro h9 q9
 refine ac ?_
 refine wk2 1 58 rfl ?_
 refine ac ?_
 refine ac ?_
 · refine bool_eq ?_; unfold validB; simp_all
 refine ac ?_
 refine cy h9 rfl (kc1 (w_Csum) rfl rfl) ?_
 refine ac ?_
 refine wk2 1 58 rfl ?_
 refine Tr.cn rfl ?_ ?_ <;> intro h10 q10
 refine ac ?_
 refine ac ?_
 · refine bool_eq ?_; unfold validB; simp_all
 refine ac ?_
 refine ac ?_
 refine Ch.cs 62 rfl ?_ ?_ <;> intro h11 q11
 refine ac ?_
 refine wk2 1 73 rfl ?_
 refine ac ?_
 refine ac ?_
 · refine bool_eq ?_; unfold validB; simp_all; omega
 refine ac ?_
 refine Ch.cs 69 rfl ?_ ?_ <;> intro h12 q12
 refine ac ?_
 refine wk2 1 73 rfl ?_
 refine ac ?_
 refine ac ?_
 · refine bool_eq ?_; unfold validB; simp_all; omega
 refine ac ?_
 refine wk2 1 73 rfl ?_
 refine Tr.cn rfl ?_ ?_ <;> intro h13 q13
 refine ac ?_
 refine ac ?_
 · refine bool_eq ?_; unfold validB; simp_all; omega
 refine ac ?_
 refine ac ?_
 refine Ch.cs 77 rfl ?_ ?_ <;> intro h14 q14
 refine ac ?_
 refine Ch.cs 82 rfl ?_ ?_ <;> intro h15 q15
 refine ac ?_
 refine Ch.cs 85 rfl ?_ ?_ <;> intro h16 q16
 refine ac ?_
 refine wk1 2 rfl ?_
 refine ac ?_
 · refine bool_eq ?_; unfold validB; simp_all
 refine ac ?_
 refine wk1 2 rfl ?_
 refine ac ?_
 · refine bool_eq ?_; unfold validB; simp_all
 refine ac ?_
 refine wk1 2 rfl ?_
 refine ac ?_
 · refine bool_eq ?_; unfold validB; simp_all; omega
 refine ac ?_
 refine wk1 2 rfl ?_
 refine ac ?_
 · refine bool_eq ?_; unfold validB; simp_all; omega
theorem w_CCheck {c : Crt} (hc : c.fits) : Fun Tryz.prog 192 [agg (rowCr c)] (int (if validB c then 0 else 9)) := by
 refine fo Tryz.func192 rfl ⟨rfl, rfl⟩ fun M0 w0 => ?_
 refine ac ?_
 refine ac ?_
 refine co rfl (kc1 (w_Cvalid (by assumption)) rfl rfl) ?_
 refine ac ?_
 refine Tr.cn rfl ?_ ?_ <;> intro h1 q1
 refine ac ?_
 refine ac ?_
 · refine int_eq ?_; simp_all
 refine ac ?_
 refine ac ?_
 refine ac ?_
 · refine int_eq ?_; simp_all
end Go.Proofs.YtppeeogffbpcbaaGreat
namespace Go.Proofs.YtppeeogffbpcbaaGreat
open Go Go.RowKit Cp

abbrev anyRow : List Pr := [any, any, any, any, any, any, any, any, any, any, any, any]
abbrev anyRows : List (List Pr) := [anyRow, anyRow, anyRow, anyRow, anyRow, anyRow, anyRow, anyRow, anyRow, anyRow, anyRow, anyRow, anyRow, anyRow, anyRow, anyRow]
theorem any_at {q : List Pr} {k o : Nat} (hk : k < 16) (ho : o = k * 12) : (anyRows.flatten ++ q)[o]? = some any := by
  subst ho
  have h : anyRows[k]? = some anyRow := by
    have hk' : k < anyRows.length := hk
    rw [List.getElem?_eq_getElem hk']
    have : ∀ r ∈ anyRows, r = anyRow := by intro r hr; simp at hr; exact hr
    rw [this _ (List.getElem_mem hk')]
  have hl : ∀ r ∈ anyRows, r.length = 12 := by intro r hr; simp at hr; rw [hr]; rfl
  rw [List.getElem?_append_left (by rw [flat_len hl]; show k * 12 < 16 * 12; omega)]
  exact flat_at (j := 0) hl h (by omega)
theorem any_rows {k : Nat} (hk : k < 16) : anyRows[k]? = some anyRow := by
  have hk' : k < anyRows.length := hk
  rw [List.getElem?_eq_getElem hk']
  have : ∀ r ∈ anyRows, r = anyRow := by intro r hr; simp at hr; exact hr
  rw [this _ (List.getElem_mem hk')]
theorem any_len : ∀ r ∈ anyRows, r.length = 12 := by intro r hr; simp at hr; rw [hr]; rfl
theorem anyRow_at {i : Nat} {p : Pr} (h : anyRow[i]? = some p) : p = any := by have := List.mem_of_getElem? h; simp at this; exact this
theorem agg_any {ps : List Pr} (h : ps.length = 12) : Pr.le (agg ps) (agg anyRow) := fun M w v ⟨cs, h1, h2, h3⟩ => ⟨cs, h1, h2, HL.of_at (by rw [h3.length, h]; rfl) fun i p v hp _ => by rw [anyRow_at hp]; trivial⟩
def headB (alg bits id : Int) (l : List Crt) : Bool := match l with | [] => true | c :: _ => decide (c.kalg = alg ∧ c.kbits = bits) && c.keyId == id
theorem headB_nil {alg bits id : Int} {l : List Crt} (h : l.length = 0) : headB alg bits id l = true := by rw [List.eq_nil_of_length_eq_zero h]; rfl
theorem headB_at {alg bits id : Int} {l : List Crt} {c : Crt} (h : l[0]? = some c) : headB alg bits id l = (decide (c.kalg = alg ∧ c.kbits = bits) && c.keyId == id) := by
  cases l with
  | nil => simp at h
  | cons a l => simp at h; subst h; rfl
theorem showsB_eq (alg bits id : Int) (l : List Crt) : showsB alg bits id l = (ofB alg bits 2 && keyB id && decide (l.length ≤ 8) && l.all validB && headB alg bits id l) := rfl

theorem w_use {a b : Int}  : Fun Tryz.prog 265 [int a, int b] (agg [int a, int b]) := by
 refine fo Tryz.func265 rfl ⟨rfl, rfl⟩ fun M0 w0 => (Tr.seq (Tr.regT ?_))
 refine TO.alloc rfl rfl (by decide) rfl z24 zo24 (fun b1 => ?_)
 refine ap ?_
 refine ap ?_
 refine Tr.ret (Fin.retX1 rfl (RVal.cell 0 rfl rfl agg24 sz24 rfl (Pr.le_refl _)) ?_)
 · exact Pr.le_refl _
theorem w_Suites   : Fun Tryz.prog 223 [] (slice 12 anyRows) := by
 refine fo Tryz.func223 rfl ⟨rfl, rfl⟩ fun M0 w0 => ?_
 refine ac ?_
 refine Tr.seq (Tr.regT ?_)
 iterate 4 refine tp rfl (kc2 (w_use) rfl rfl rfl) ?_
 refine tp rfl (ok_build (rows := []) rfl bl24 zo24 trivial rfl) ?_
 refine TO.alloc rfl rfl (by decide) rfl z24 zo24 (fun b1 => ?_)
 refine TO.alloc rfl rfl (by decide) rfl z24 zo24 (fun b2 => ?_)
 refine TO.alloc rfl rfl (by decide) rfl z24 zo24 (fun b3 => ?_)
 refine TO.alloc rfl rfl (by decide) rfl z24 zo24 (fun b4 => ?_)
 refine TO.alloc rfl rfl (by decide) rfl z24 zo24 (fun b5 => ?_)
 refine sf 4 1 ⟨rfl, rfl, rfl⟩ rfl rfl rfl rfl ?_
 refine sf 3 2 ⟨rfl, rfl, rfl⟩ rfl rfl rfl rfl ?_
 refine sf 2 3 ⟨rfl, rfl, rfl⟩ rfl rfl rfl rfl ?_
 refine sf 1 4 ⟨rfl, rfl, rfl⟩ rfl rfl rfl rfl ?_
 refine sf 0 5 ⟨rfl, rfl, rfl⟩ rfl rfl rfl rfl ?_
 refine TO.nil (Fin.go (wk5 1 2 3 4 5 rfl (Tr.seq (Tr.regT ?_))))
 iterate 5 refine tp rfl (kc2 (w_use) rfl rfl rfl) ?_
 refine TO.alloc rfl rfl (by decide) rfl z24 zo24 (fun b6 => ?_)
 refine TO.alloc rfl rfl (by decide) rfl z24 zo24 (fun b7 => ?_)
 refine TO.alloc rfl rfl (by decide) rfl z24 zo24 (fun b8 => ?_)
 refine TO.alloc rfl rfl (by decide) rfl z24 zo24 (fun b9 => ?_)
 refine TO.alloc rfl rfl (by decide) rfl z24 zo24 (fun b10 => ?_)
 refine sf 4 6 ⟨rfl, rfl, rfl⟩ rfl rfl rfl rfl ?_
 refine sf 3 7 ⟨rfl, rfl, rfl⟩ rfl rfl rfl rfl ?_
 refine sf 2 8 ⟨rfl, rfl, rfl⟩ rfl rfl rfl rfl ?_
 refine sf 1 9 ⟨rfl, rfl, rfl⟩ rfl rfl rfl rfl ?_
 refine sf 0 10 ⟨rfl, rfl, rfl⟩ rfl rfl rfl rfl ?_
 refine TO.nil (Fin.go (wk10 1 2 3 4 5 6 7 8 9 10 rfl (Tr.seq (Tr.regT ?_))))
 iterate 4 refine tp rfl (kc2 (w_use) rfl rfl rfl) ?_
 refine TO.alloc rfl rfl (by decide) rfl z24 zo24 (fun b11 => ?_)
 refine TO.alloc rfl rfl (by decide) rfl z24 zo24 (fun b12 => ?_)
 refine TO.alloc rfl rfl (by decide) rfl z24 zo24 (fun b13 => ?_)
 refine TO.alloc rfl rfl (by decide) rfl z24 zo24 (fun b14 => ?_)
 refine sf 3 11 ⟨rfl, rfl, rfl⟩ rfl rfl rfl rfl ?_
 refine sf 2 12 ⟨rfl, rfl, rfl⟩ rfl rfl rfl rfl ?_
 refine sf 1 13 ⟨rfl, rfl, rfl⟩ rfl rfl rfl rfl ?_
 refine sf 0 14 ⟨rfl, rfl, rfl⟩ rfl rfl rfl rfl ?_
 refine TO.nil (Fin.go (wk14 1 2 3 4 5 6 7 8 9 10 11 12 13 14 rfl (Tr.seq (Tr.pad (Tr.rx (xo rfl (fun _ => ok_loadA rfl agg24 sz24 (vl rfl) rfl rfl) (xo rfl (fun _ => ok_loadA rfl agg24 sz24 (vl rfl) rfl rfl) (xo rfl (fun _ => kc2 (w_use) rfl rfl rfl) (xo rfl (fun _ => ok_loadA rfl agg24 sz24 (vl rfl) rfl rfl) (xo rfl (fun _ => ok_build (rows := [(1, [_]), (2, _), (3, _), (4, _), (5, _), (6, [_]), (7, [_])]) rfl bl170 zo170 ⟨⟨rfl, (VL.le (vl rfl) (one_cellsP _))⟩, ⟨⟨rfl, (VL.le (vl rfl) (agg_cellsP _))⟩, ⟨⟨rfl, (VL.le (vl rfl) (agg_cellsP _))⟩, ⟨⟨rfl, (VL.le (vl rfl) (agg_cellsP _))⟩, ⟨⟨rfl, (VL.le (vl rfl) (agg_cellsP _))⟩, ⟨⟨rfl, (VL.le (vl rfl) (one_cellsP _))⟩, ⟨⟨rfl, (VL.le (vl rfl) (one_cellsP _))⟩, trivial⟩⟩⟩⟩⟩⟩⟩ rfl) (xo rfl (fun _ => ok_loadA rfl agg24 sz24 (vl rfl) rfl rfl) (xo rfl (fun _ => ok_loadA rfl agg24 sz24 (vl rfl) rfl rfl) (xo rfl (fun _ => kc2 (w_use) rfl rfl rfl) ?_)))))))))))))
 refine xo rfl (fun _ => ok_loadA rfl agg24 sz24 (vl rfl) rfl rfl) (xo rfl (fun _ => ok_build (rows := [(1, [_]), (2, _), (3, _), (4, _), (5, _), (6, [_]), (7, [_])]) rfl bl170 zo170 ⟨⟨rfl, (VL.le (vl rfl) (one_cellsP _))⟩, ⟨⟨rfl, (VL.le (vl rfl) (agg_cellsP _))⟩, ⟨⟨rfl, (VL.le (vl rfl) (agg_cellsP _))⟩, ⟨⟨rfl, (VL.le (vl rfl) (agg_cellsP _))⟩, ⟨⟨rfl, (VL.le (vl rfl) (agg_cellsP _))⟩, ⟨⟨rfl, (VL.le (vl rfl) (one_cellsP _))⟩, ⟨⟨rfl, (VL.le (vl rfl) (one_cellsP _))⟩, trivial⟩⟩⟩⟩⟩⟩⟩ rfl) ?_)
 iterate 4 refine xo rfl (fun _ => ok_loadA rfl agg24 sz24 (vl rfl) rfl rfl) ?_
 refine xo rfl (fun _ => ok_build (rows := [(1, [_]), (2, _), (3, _), (4, _), (5, _), (6, [_]), (7, [_])]) rfl bl170 zo170 ⟨⟨rfl, (VL.le (vl rfl) (one_cellsP _))⟩, ⟨⟨rfl, (VL.le (vl rfl) (agg_cellsP _))⟩, ⟨⟨rfl, (VL.le (vl rfl) (agg_cellsP _))⟩, ⟨⟨rfl, (VL.le (vl rfl) (agg_cellsP _))⟩, ⟨⟨rfl, (VL.le (vl rfl) (agg_cellsP _))⟩, ⟨⟨rfl, (VL.le (vl rfl) (one_cellsP _))⟩, ⟨⟨rfl, (VL.le (vl rfl) (one_cellsP _))⟩, trivial⟩⟩⟩⟩⟩⟩⟩ rfl) (xo rfl (fun _ => kc2 (w_use) rfl rfl rfl) (xo rfl (fun _ => ok_loadA rfl agg24 sz24 (vl rfl) rfl rfl) (xo rfl (fun _ => ok_loadA rfl agg24 sz24 (vl rfl) rfl rfl) (xo rfl (fun _ => ok_loadA rfl agg24 sz24 (vl rfl) rfl rfl) (xo rfl (fun _ => ok_build (rows := [(1, [_]), (2, _), (3, _), (4, _), (5, _), (6, [_]), (7, [_])]) rfl bl170 zo170 ⟨⟨rfl, (VL.le (vl rfl) (one_cellsP _))⟩, ⟨⟨rfl, (VL.le (vl rfl) (agg_cellsP _))⟩, ⟨⟨rfl, (VL.le (vl rfl) (agg_cellsP _))⟩, ⟨⟨rfl, (VL.le (vl rfl) (agg_cellsP _))⟩, ⟨⟨rfl, (VL.le (vl rfl) (agg_cellsP _))⟩, ⟨⟨rfl, (VL.le (vl rfl) (one_cellsP _))⟩, ⟨⟨rfl, (VL.le (vl rfl) (one_cellsP _))⟩, trivial⟩⟩⟩⟩⟩⟩⟩ rfl) (xo rfl (fun _ => kc2 (w_use) rfl rfl rfl) (xo rfl (fun _ => ok_loadA rfl agg24 sz24 (vl rfl) rfl rfl) (xo rfl (fun _ => ok_loadA rfl agg24 sz24 (vl rfl) rfl rfl) (xo rfl (fun _ => ok_loadA rfl agg24 sz24 (vl rfl) rfl rfl) (xo rfl (fun _ => ok_build (rows := [(1, [_]), (2, _), (3, _), (4, _), (5, _), (6, [_]), (7, [_])]) rfl bl170 zo170 ⟨⟨rfl, (VL.le (vl rfl) (one_cellsP _))⟩, ⟨⟨rfl, (VL.le (vl rfl) (agg_cellsP _))⟩, ⟨⟨rfl, (VL.le (vl rfl) (agg_cellsP _))⟩, ⟨⟨rfl, (VL.le (vl rfl) (agg_cellsP _))⟩, ⟨⟨rfl, (VL.le (vl rfl) (agg_cellsP _))⟩, ⟨⟨rfl, (VL.le (vl rfl) (one_cellsP _))⟩, ⟨⟨rfl, (VL.le (vl rfl) (one_cellsP _))⟩, trivial⟩⟩⟩⟩⟩⟩⟩ rfl) ?_))))))))))
 iterate 4 refine xo rfl (fun _ => ok_loadA rfl agg24 sz24 (vl rfl) rfl rfl) ?_
 refine xo rfl (fun _ => ok_build (rows := [(1, [_]), (2, _), (3, _), (4, _), (5, _), (6, [_]), (7, [_])]) rfl bl170 zo170 ⟨⟨rfl, (VL.le (vl rfl) (one_cellsP _))⟩, ⟨⟨rfl, (VL.le (vl rfl) (agg_cellsP _))⟩, ⟨⟨rfl, (VL.le (vl rfl) (agg_cellsP _))⟩, ⟨⟨rfl, (VL.le (vl rfl) (agg_cellsP _))⟩, ⟨⟨rfl, (VL.le (vl rfl) (agg_cellsP _))⟩, ⟨⟨rfl, (VL.le (vl rfl) (one_cellsP _))⟩, ⟨⟨rfl, (VL.le (vl rfl) (one_cellsP _))⟩, trivial⟩⟩⟩⟩⟩⟩⟩ rfl) (xo rfl (fun _ => kc2 (w_use) rfl rfl rfl) (xo rfl (fun _ => ok_loadA rfl agg24 sz24 (vl rfl) rfl rfl) (xo rfl (fun _ => ok_loadA rfl agg24 sz24 (vl rfl) rfl rfl) (xo rfl (fun _ => ok_loadA rfl agg24 sz24 (vl rfl) rfl rfl) (xo rfl (fun _ => ok_build (rows := [(1, [_]), (2, _), (3, _), (4, _), (5, _), (6, [_]), (7, [_])]) rfl bl170 zo170 ⟨⟨rfl, (VL.le (vl rfl) (one_cellsP _))⟩, ⟨⟨rfl, (VL.le (vl rfl) (agg_cellsP _))⟩, ⟨⟨rfl, (VL.le (vl rfl) (agg_cellsP _))⟩, ⟨⟨rfl, (VL.le (vl rfl) (agg_cellsP _))⟩, ⟨⟨rfl, (VL.le (vl rfl) (agg_cellsP _))⟩, ⟨⟨rfl, (VL.le (vl rfl) (one_cellsP _))⟩, ⟨⟨rfl, (VL.le (vl rfl) (one_cellsP _))⟩, trivial⟩⟩⟩⟩⟩⟩⟩ rfl) ?_)))))
 iterate 4 refine xo rfl (fun _ => ok_loadA rfl agg24 sz24 (vl rfl) rfl rfl) ?_
 refine xo rfl (fun _ => ok_build (rows := [(1, [_]), (2, _), (3, _), (4, _), (5, _), (6, [_]), (7, [_])]) rfl bl170 zo170 ⟨⟨rfl, (VL.le (vl rfl) (one_cellsP _))⟩, ⟨⟨rfl, (VL.le (vl rfl) (agg_cellsP _))⟩, ⟨⟨rfl, (VL.le (vl rfl) (agg_cellsP _))⟩, ⟨⟨rfl, (VL.le (vl rfl) (agg_cellsP _))⟩, ⟨⟨rfl, (VL.le (vl rfl) (agg_cellsP _))⟩, ⟨⟨rfl, (VL.le (vl rfl) (one_cellsP _))⟩, ⟨⟨rfl, (VL.le (vl rfl) (one_cellsP _))⟩, trivial⟩⟩⟩⟩⟩⟩⟩ rfl) (xo rfl (fun _ => ok_loadA rfl agg24 sz24 (vl rfl) rfl rfl) (xo rfl (fun _ => ok_loadA rfl agg24 sz24 (vl rfl) rfl rfl) (xo rfl (fun _ => kc2 (w_use) rfl rfl rfl) (xo rfl (fun _ => kc2 (w_use) rfl rfl rfl) (xo rfl (fun _ => ok_build (rows := [(1, [_]), (2, _), (3, _), (4, _), (5, _), (6, [_]), (7, [_])]) rfl bl170 zo170 ⟨⟨rfl, (VL.le (vl rfl) (one_cellsP _))⟩, ⟨⟨rfl, (VL.le (vl rfl) (agg_cellsP _))⟩, ⟨⟨rfl, (VL.le (vl rfl) (agg_cellsP _))⟩, ⟨⟨rfl, (VL.le (vl rfl) (agg_cellsP _))⟩, ⟨⟨rfl, (VL.le (vl rfl) (agg_cellsP _))⟩, ⟨⟨rfl, (VL.le (vl rfl) (one_cellsP _))⟩, ⟨⟨rfl, (VL.le (vl rfl) (one_cellsP _))⟩, trivial⟩⟩⟩⟩⟩⟩⟩ rfl) ?_)))))
 iterate 4 refine xo rfl (fun _ => ok_loadA rfl agg24 sz24 (vl rfl) rfl rfl) ?_
 refine xo rfl (fun _ => ok_build (rows := [(1, [_]), (2, _), (3, _), (4, _), (5, _), (6, [_]), (7, [_])]) rfl bl170 zo170 ⟨⟨rfl, (VL.le (vl rfl) (one_cellsP _))⟩, ⟨⟨rfl, (VL.le (vl rfl) (agg_cellsP _))⟩, ⟨⟨rfl, (VL.le (vl rfl) (agg_cellsP _))⟩, ⟨⟨rfl, (VL.le (vl rfl) (agg_cellsP _))⟩, ⟨⟨rfl, (VL.le (vl rfl) (agg_cellsP _))⟩, ⟨⟨rfl, (VL.le (vl rfl) (one_cellsP _))⟩, ⟨⟨rfl, (VL.le (vl rfl) (one_cellsP _))⟩, trivial⟩⟩⟩⟩⟩⟩⟩ rfl) (xo rfl (fun _ => kc2 (w_use) rfl rfl rfl) (xo rfl (fun _ => ok_loadA rfl agg24 sz24 (vl rfl) rfl rfl) (xo rfl (fun _ => ok_loadA rfl agg24 sz24 (vl rfl) rfl rfl) (xo rfl (fun _ => ok_loadA rfl agg24 sz24 (vl rfl) rfl rfl) (xo rfl (fun _ => ok_build (rows := [(1, [_]), (2, _), (3, _), (4, _), (5, _), (6, [_]), (7, [_])]) rfl bl170 zo170 ⟨⟨rfl, (VL.le (vl rfl) (one_cellsP _))⟩, ⟨⟨rfl, (VL.le (vl rfl) (agg_cellsP _))⟩, ⟨⟨rfl, (VL.le (vl rfl) (agg_cellsP _))⟩, ⟨⟨rfl, (VL.le (vl rfl) (agg_cellsP _))⟩, ⟨⟨rfl, (VL.le (vl rfl) (agg_cellsP _))⟩, ⟨⟨rfl, (VL.le (vl rfl) (one_cellsP _))⟩, ⟨⟨rfl, (VL.le (vl rfl) (one_cellsP _))⟩, trivial⟩⟩⟩⟩⟩⟩⟩ rfl) ?_)))))
 iterate 4 refine xo rfl (fun _ => ok_loadA rfl agg24 sz24 (vl rfl) rfl rfl) ?_
 refine xo rfl (fun _ => ok_build (rows := [(1, [_]), (2, _), (3, _), (4, _), (5, _), (6, [_]), (7, [_])]) rfl bl170 zo170 ⟨⟨rfl, (VL.le (vl rfl) (one_cellsP _))⟩, ⟨⟨rfl, (VL.le (vl rfl) (agg_cellsP _))⟩, ⟨⟨rfl, (VL.le (vl rfl) (agg_cellsP _))⟩, ⟨⟨rfl, (VL.le (vl rfl) (agg_cellsP _))⟩, ⟨⟨rfl, (VL.le (vl rfl) (agg_cellsP _))⟩, ⟨⟨rfl, (VL.le (vl rfl) (one_cellsP _))⟩, ⟨⟨rfl, (VL.le (vl rfl) (one_cellsP _))⟩, trivial⟩⟩⟩⟩⟩⟩⟩ rfl) ?_
 iterate 4 refine xo rfl (fun _ => ok_loadA rfl agg24 sz24 (vl rfl) rfl rfl) ?_
 refine xo rfl (fun _ => ok_build (rows := [(1, [_]), (2, _), (3, _), (4, _), (5, _), (6, [_]), (7, [_])]) rfl bl170 zo170 ⟨⟨rfl, (VL.le (vl rfl) (one_cellsP _))⟩, ⟨⟨rfl, (VL.le (vl rfl) (agg_cellsP _))⟩, ⟨⟨rfl, (VL.le (vl rfl) (agg_cellsP _))⟩, ⟨⟨rfl, (VL.le (vl rfl) (agg_cellsP _))⟩, ⟨⟨rfl, (VL.le (vl rfl) (agg_cellsP _))⟩, ⟨⟨rfl, (VL.le (vl rfl) (one_cellsP _))⟩, ⟨⟨rfl, (VL.le (vl rfl) (one_cellsP _))⟩, trivial⟩⟩⟩⟩⟩⟩⟩ rfl) ?_
 iterate 4 refine xo rfl (fun _ => ok_loadA rfl agg24 sz24 (vl rfl) rfl rfl) ?_
 refine xo rfl (fun _ => ok_build (rows := [(1, [_]), (2, _), (3, _), (4, _), (5, _), (6, [_]), (7, [_])]) rfl bl170 zo170 ⟨⟨rfl, (VL.le (vl rfl) (one_cellsP _))⟩, ⟨⟨rfl, (VL.le (vl rfl) (agg_cellsP _))⟩, ⟨⟨rfl, (VL.le (vl rfl) (agg_cellsP _))⟩, ⟨⟨rfl, (VL.le (vl rfl) (agg_cellsP _))⟩, ⟨⟨rfl, (VL.le (vl rfl) (agg_cellsP _))⟩, ⟨⟨rfl, (VL.le (vl rfl) (one_cellsP _))⟩, ⟨⟨rfl, (VL.le (vl rfl) (one_cellsP _))⟩, trivial⟩⟩⟩⟩⟩⟩⟩ rfl) ?_
 iterate 4 refine xo rfl (fun _ => ok_loadA rfl agg24 sz24 (vl rfl) rfl rfl) ?_
 refine xo rfl (fun _ => ok_build (rows := [(1, [_]), (2, _), (3, _), (4, _), (5, _), (6, [_]), (7, [_])]) rfl bl170 zo170 ⟨⟨rfl, (VL.le (vl rfl) (one_cellsP _))⟩, ⟨⟨rfl, (VL.le (vl rfl) (agg_cellsP _))⟩, ⟨⟨rfl, (VL.le (vl rfl) (agg_cellsP _))⟩, ⟨⟨rfl, (VL.le (vl rfl) (agg_cellsP _))⟩, ⟨⟨rfl, (VL.le (vl rfl) (agg_cellsP _))⟩, ⟨⟨rfl, (VL.le (vl rfl) (one_cellsP _))⟩, ⟨⟨rfl, (VL.le (vl rfl) (one_cellsP _))⟩, trivial⟩⟩⟩⟩⟩⟩⟩ rfl) (xo rfl (fun _ => kc2 (w_use) rfl rfl rfl) (xo rfl (fun _ => ok_loadA rfl agg24 sz24 (vl rfl) rfl rfl) (xo rfl (fun _ => ok_loadA rfl agg24 sz24 (vl rfl) rfl rfl) (xo rfl (fun _ => ok_loadA rfl agg24 sz24 (vl rfl) rfl rfl) (xo rfl (fun _ => ok_build (rows := [(1, [_]), (2, _), (3, _), (4, _), (5, _), (6, [_]), (7, [_])]) rfl bl170 zo170 ⟨⟨rfl, (VL.le (vl rfl) (one_cellsP _))⟩, ⟨⟨rfl, (VL.le (vl rfl) (agg_cellsP _))⟩, ⟨⟨rfl, (VL.le (vl rfl) (agg_cellsP _))⟩, ⟨⟨rfl, (VL.le (vl rfl) (agg_cellsP _))⟩, ⟨⟨rfl, (VL.le (vl rfl) (agg_cellsP _))⟩, ⟨⟨rfl, (VL.le (vl rfl) (one_cellsP _))⟩, ⟨⟨rfl, (VL.le (vl rfl) (one_cellsP _))⟩, trivial⟩⟩⟩⟩⟩⟩⟩ rfl) (Cx.ef 0 rfl rfl (by decide) (ef_buildM (xs := [.tmp 35, .tmp 40, .tmp 45, .tmp 50, .tmp 55, .tmp 60, .tmp 65, .tmp 70, .tmp 75, .tmp 80, .tmp 85, .tmp 90, .tmp 95, .tmp 100, .tmp 105, .tmp 110]) (rows := anyRows) rfl rfl (by decide) rfl rfl Tryz.underlying205 sz170 z170 rfl (by decide) ⟨⟨(by exact rfl), VL.le (vl rfl) (Pr.le_trans (agg_any rfl) (agg_cellsP _))⟩, ⟨⟨(by exact rfl), VL.le (vl rfl) (Pr.le_trans (agg_any rfl) (agg_cellsP _))⟩, ⟨⟨(by exact rfl), VL.le (vl rfl) (Pr.le_trans (agg_any rfl) (agg_cellsP _))⟩, ⟨⟨(by exact rfl), VL.le (vl rfl) (Pr.le_trans (agg_any rfl) (agg_cellsP _))⟩, ⟨⟨(by exact rfl), VL.le (vl rfl) (Pr.le_trans (agg_any rfl) (agg_cellsP _))⟩, ⟨⟨(by exact rfl), VL.le (vl rfl) (Pr.le_trans (agg_any rfl) (agg_cellsP _))⟩, ⟨⟨(by exact rfl), VL.le (vl rfl) (Pr.le_trans (agg_any rfl) (agg_cellsP _))⟩, ⟨⟨(by exact rfl), VL.le (vl rfl) (Pr.le_trans (agg_any rfl) (agg_cellsP _))⟩, ⟨⟨(by exact rfl), VL.le (vl rfl) (Pr.le_trans (agg_any rfl) (agg_cellsP _))⟩, ⟨⟨(by exact rfl), VL.le (vl rfl) (Pr.le_trans (agg_any rfl) (agg_cellsP _))⟩, ⟨⟨(by exact rfl), VL.le (vl rfl) (Pr.le_trans (agg_any rfl) (agg_cellsP _))⟩, ⟨⟨(by exact rfl), VL.le (vl rfl) (Pr.le_trans (agg_any rfl) (agg_cellsP _))⟩, ⟨⟨(by exact rfl), VL.le (vl rfl) (Pr.le_trans (agg_any rfl) (agg_cellsP _))⟩, ⟨⟨(by exact rfl), VL.le (vl rfl) (Pr.le_trans (agg_any rfl) (agg_cellsP _))⟩, ⟨⟨(by exact rfl), VL.le (vl rfl) (Pr.le_trans (agg_any rfl) (agg_cellsP _))⟩, ⟨⟨(by exact rfl), VL.le (vl rfl) (Pr.le_trans (agg_any rfl) (agg_cellsP _))⟩, trivial⟩⟩⟩⟩⟩⟩⟩⟩⟩⟩⟩⟩⟩⟩⟩⟩ (by decide) (by decide)) ?_))))))
 refine Cx.ef 0 rfl rfl (by decide) (ef_move rfl rfl (by decide) rfl (vl rfl)) ?_
 refine Cx.nil ⟨by kernel_rfl, ?_⟩
 refine FinX.open_ 0 15 rfl rfl (fun v1 => ?_)
 refine FinX.done al1 (Fin.go (wk1 15 rfl (Tr.seq (Tr.seq (Tr.openM 0 rfl fun b15 cap15 sp15 hv15 hg15 hm15 hs15 => ?_)))))
 subst hv15
 refine ac ?_
 refine co rfl (okb_len rfl Tryz.underlying205 ⟨_, rfl, andIs_is _ _⟩) ?_
 refine ac ?_
 refine Tr.block (Tr.loopw [(15, _), (113, _)] (kk2 rfl) (fun k : Nat => [(114, int ((k : Nat) : Int))]) (fun k : Nat => k ≤ (anyRows.length)) (fun k : Nat => (anyRows.length) - k) 0 (Nat.zero_le _) ⟨ke rfl, trivial⟩ ?_)
 rintro k hle_k
 refine ac ?_
 refine Tr.seq ?_
 refine Tr.cn rfl ?_ ?_ <;> intro h1 q1
 have hk_k : k < (anyRows.length) := lt_of_dec h1
 have hk16 : k < 16 := hk_k
 refine ac ?_
 refine ac ?_
 refine Tr.regT (tm rfl (tm rfl (tm rfl ?_)))
 refine tp rfl (ok_add rfl (vl rfl) (vl rfl) ?hin) ?_; case hin => unfold InI; omega
 refine tp rfl (okp_indexSl rfl Tryz.underlying205 sz170 ⟨_, rfl, andIs_is _ _⟩ (vl rfl) (by omega) (by omega)) (tp rfl (okp_fieldAddr rfl fo170_0 (vl rfl)) ?_)
 refine TO.ef0 0 rfl rfl (ef_store rfl rfl (vl rfl) (VL.le (vl rfl) (one_any _)) sz3 rfl (by rw [List.length_append, flat_len any_len]; show _ ≤ 16 * 12 + _; omega) (put_any (any_at hk16 (by omega)))) ?_
 refine TO.nil ?_
 refine ac ?_
 refine ac ?_
 exact Fin.fam_same (k + 1) ⟨hk_k, by omega⟩ ⟨⟨_, rfl, int_succ k⟩, ke rfl, ke rfl, trivial⟩
 have he_k : k = (anyRows.length) := by have := ge_of_dec h1; omega
 subst he_k
 refine ac ?_
 refine Tr.seq ?_
 refine Tr.frzS (sz := 12) anyRows 0 15 rfl rfl (andIs_is _ _) any_len hg15 hm15 (by rw [List.length_map]; exact hs15) ?_
 refine ac ?_
 refine ac ?_
 · exact andIs_le _ _
theorem w_Suite {code : Int}  : Fun Tryz.prog 189 [int code] (tup [agg anyRow, int (if 1 ≤ code ∧ code ≤ 16 then 0 else 8)]) := by
 refine fo Tryz.func189 rfl ⟨rfl, rfl⟩ fun M0 w0 => ?_
 have hL : anyRows.length = 16 := rfl
 refine Tr.seq (Tr.regT ?_)
 refine TO.alloc rfl rfl (by decide) rfl z170 zo170 (fun b1 => ?_)
 refine ap ?_
 refine Tr.seq (Tr.reg0 (co rfl (kc0 (w_Suites) rfl) ?_))
 refine ac ?_
 refine ac ?_
 refine Ch.cs 8 rfl ?_ ?_ <;> intro h1 q1
 refine ac ?_
 refine Tr.cond rfl (fun _ => ?_) (fun h => nomatch h)
 refine Tr.seq (Tr.regT (tp rfl (ok_build (rows := []) rfl bl170 zo170 trivial rfl) (TO.store_all 0 rfl rfl rfl (vl rfl) (VL.le (vl rfl) (agg_cellsP _)) rfl sz170 rfl rfl (tm rfl (TO.nil (Fin.go (wk2 2 3 rfl (Tr.ret (Fin.then_ret (Fin.retX2 rfl (RVal.cell 0 rfl rfl agg170 sz170 rfl (Pr.le_refl _)) (RVal.tmp rfl (Pr.le_refl _)) ?_))))))))))
 · exact tup_le ⟨agg_any rfl, int_eq (by rw [if_neg]; simp_all; omega), trivial⟩
 refine ac ?_
 refine cy h1 rfl (ok_len rfl Tryz.underlying205 (vl rfl)) ?_
 refine ac ?_
 refine Tr.cn rfl ?_ ?_ <;> intro h2 q2
 refine ap ?_
 refine wk2 2 3 rfl (Tr.ret (Fin.then_ret (Fin.retX2 rfl (RVal.cell 0 rfl rfl agg170 sz170 rfl (Pr.le_refl _)) (RVal.tmp rfl (Pr.le_refl _)) ?_)))
 · exact tup_le ⟨agg_any rfl, int_eq (by rw [if_neg]; simp_all), trivial⟩
 have hin : 1 ≤ code ∧ code ≤ 16 := by omega
 refine ac ?_
 refine ap ?_
 refine tp rfl (ok_indexAddr rfl Tryz.underlying205 sz170 (vl rfl) (vl rfl) (by omega) (any_rows (by omega))) ?_
 refine ap ?_
 refine wk2 2 3 rfl (Tr.ret (Fin.retX2 rfl (RVal.cell 0 rfl rfl agg170 sz170 rfl (Pr.le_refl _)) (RVal.tmp rfl (Pr.le_refl _)) ?_))
 · exact tup_le ⟨Pr.le_refl _, int_eq (by rw [if_pos hin]), trivial⟩
end Go.Proofs.YtppeeogffbpcbaaGreat
